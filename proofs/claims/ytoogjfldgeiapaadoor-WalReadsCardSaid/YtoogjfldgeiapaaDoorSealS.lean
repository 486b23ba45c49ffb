/- Contracts of functions, walked. -/
import Derived.Test.YtoogjfldgeiapaaDoorShaR
import Derived.Test.YtoogjfldgeiapaaDoorSealC
namespace Go.Proofs.YtoogjfldgeiapaaDoor
set_option linter.unusedSimpArgs false
set_option linter.unusedVariables false
open Go.Tan Go.RowKit

namespace Fx
theorem go51 : goFn Tryd.prog 51 = true := by kernel_rfl
theorem se50 : slE Tryd.prog 50 = some (27, 1, 24) := by kernel_rfl
theorem sn50 : (slE Tryd.prog 50).isSome = true := by kernel_rfl
theorem go55 : goFn Tryd.prog 55 = true := by kernel_rfl
end Fx
theorem Fix_ok (xs : List Y) (h : Sh) (n : BitVec 64) (many : Nat) (G : PM) (hs : SlR G 1 encY h xs) (hl : xs.length ≤ 140737488351232) (hm : many ≤ 8) : Ct Tryd.prog 34 ([h.val xs.length, uv .u64 n, .int .i64 (many : Int)] : List Value).toArray G [] (PR 5 (fun L => L = xs ++ fixL n many)) := by
  refine Ct.of Tryd.func34 rfl Tryd.ntmps34 rfl fun w0 hs0 => ?_
  refine .seq ?_
  refine Wk.rg [0] rfl rfl ?_
  refine asg rfl .no (.u rfl) ?_
  refine .nil ?_
  refine .code ?_
  refine .seq ?_
  refine Wk.rg [0, 1, 2, 3] rfl rfl ?_
  refine b0B rfl Fx.se27 ?_; intro b8
  refine mv rfl .no (.u rfl) ?_
  refine apY0 rfl Fx.se27 Fx.zv5 (.u rfl) (.u rfl) .here hs.sc (by (try simp only [List.length_append, List.length_cons, List.length_nil, yl_len]); omega) ?_
  intro v10 L10 _ ov10 eL10
  have lL10 : L10.length = xs.length := by rw [eL10]
  refine asg rfl .no (.u rfl) ?_
  refine .nil ?_
  refine .code ?_
  refine .seq ?_
  refine .seq ?_
  refine Wk.rg [0, 1, 2, 3] rfl rfl ?_
  refine mv rfl .no (.u rfl) ?_
  refine mIn (many) (8) rfl .no (.u rfl) (.u rfl) (fun _ => by omega) (fun _ => by omega) ?_
  refine mAn (0) ((min many 8)) rfl .no (.u rfl) (.u rfl) (fun _ => by omega) (fun _ => by omega) ?_
  refine mv rfl .no (.u rfl) ?_
  refine .nil ?_
  refine .code ?_
  refine .block ?_
  refine Wk.lop (α := Nat × Value × List Y × BitVec 64) (fun gh => [(1, true, uv .u64 gh.2.2.2), (7, true, gh.2.1), (14, true, .int .i64 (gh.1 : Int))]) (fun gh => [rB gh.2.1 5 gh.2.2.1])
    (fun gh Gl => (gh.1 ≤ many) ∧ (gh.2.2.1 = xs ++ fixL n gh.1) ∧ (gh.2.2.2 = n >>> (8 * gh.1))) (fun gh => many - gh.1) (0, _, _, n) [(13, true, _)] []
    (ESub.cons rfl rfl (ESub.cons rfl rfl (ESub.cons rfl (by first | rfl | exact evi (by omega)) (ESub.cons rfl rfl ESub.nil))))
    (MSub.cons .here rfl MSub.nil) ?_ ?_
  · refine ⟨?_, ?_, ?_⟩
    · (try dsimp only) <;> (first | omega | rfl | assumption | (simp; done))
    · (try dsimp only) <;> (rw [eL10]; simp [fixL])
    · (try dsimp only) <;> (simp)
  intro gh N0 Gl0 hN0 hGl0 hF0
  obtain ⟨k, v, L, m⟩ := gh; dsimp only at hF0 hN0 ⊢
  obtain ⟨hk, eL, em⟩ := hF0
  have hs := hs.mono hGl0
  have lL : L.length = xs.length + k := by rw [eL]; simp [fix_len]
  refine .seq ?_
  refine Wk.rg [0] rfl rfl ?_
  refine cp rfl .no (.u rfl) (.u rfl) rfl ?_
  refine .nil ?_
  refine .code ?_
  refine .seq ?_
  refine .cond rfl (fun c1 => ?_) (fun c1 => ?_)
  · have c1k := c1
    try simp only [decide_eq_true_eq, decide_eq_false_iff_not, Int.not_lt, Int.not_le, gt_iff_lt, ge_iff_le, Bool.or_eq_true, Bool.and_eq_true, Bool.or_eq_false_iff, Bool.not_eq_true', Bool.not_eq_false', Int.toNat_natCast, bne_iff_ne, beq_iff_eq, bne_eq_false_iff_eq, beq_eq_false_iff_ne, ne_eq] at c1
    refine .skip ?_
    refine .code ?_
    refine .seq ?_
    refine .block ?_
    refine .seq ?_
    refine Wk.rg [0, 1, 2, 3, 4, 5] rfl rfl ?_
    refine mv rfl .no (.u rfl) ?_
    refine mv rfl .no (.u rfl) ?_
    refine cu (k := .u64) rfl .no rfl Fx.cv43_5 (.u rfl) ?_
    refine Go.Tan.b1 rfl Fx.se27 Fx.zv5 (.u rfl) rfl rfl (by decide) ?_; intro b19
    refine apY rfl Fx.se27 Fx.zv5 (.u rfl) (.u rfl) (.there .here) (Sc.one .here) (by show _ + 1 ≤ _; omega) ?_
    intro v20 L20 ov20 eL20
    have lL20 : L20.length = L.length + 1 := by rw [eL20, List.length_append]; first | rfl | simp [yl_len]
    refine asg rfl .no (.u rfl) ?_
    refine .nil ?_
    refine .code ?_
    refine Wk.rg [0, 1, 2] rfl rfl ?_
    refine mv rfl .no (.u rfl) ?_
    refine rw' (k := .u64) rfl .no (.u rfl) (.u rfl) (fun _ => by decide) ?_
    refine asg rfl .no (.u rfl) ?_
    refine .nil ?_
    refine .blk ?_
    refine .code ?_
    refine Wk.rg [0, 1] rfl rfl ?_
    refine arn (((k + 1) : Nat) : Int) rfl .no (.u rfl) (.u rfl) rfl (fun _ => by omega) (fun _ => wrap_i64 (by omega) (by omega)) ?_
    refine mv rfl .no (.u rfl) ?_
    refine .nil ?_
    refine We.lpo (k + 1, v20, L20, m >>> 8) ?_ ?_ ?_ ?_ ?_
    · exact (ESub.cons rfl rfl (ESub.cons rfl rfl (ESub.cons rfl (by first | rfl | exact evi (by omega)) (ESub.cons rfl rfl ESub.nil))))
    · exact (MSub.cons .here rfl MSub.nil)
    · first | omega | (dsimp only; omega)
    · exact hGl0
    · refine ⟨?_, ?_, ?_⟩
      · (try dsimp only) <;> (first | omega | rfl | assumption | (simp; done))
      · (try dsimp only) <;> (rw [eL20, eL, em, fix_snoc, List.append_assoc]; rfl)
      · (try dsimp only) <;> (rw [em, ← BitVec.shiftRight_add]; rfl)
  · have c1k := c1
    try simp only [decide_eq_true_eq, decide_eq_false_iff_not, Int.not_lt, Int.not_le, gt_iff_lt, ge_iff_le, Bool.or_eq_true, Bool.and_eq_true, Bool.or_eq_false_iff, Bool.not_eq_true', Bool.not_eq_false', Int.toNat_natCast, bne_iff_ne, beq_iff_eq, bne_eq_false_iff_eq, beq_eq_false_iff_ne, ne_eq] at c1
    refine .exit ?_
    refine .xcode ?_
    refine .xlp ?_
    refine .xblk ?_
    refine .code ?_
    refine .seq ?_
    refine Wk.rg [0, 1] rfl rfl ?_
    refine mv rfl .no (.u rfl) ?_
    refine asg rfl .no (.u rfl) ?_
    refine .nil ?_
    refine .code ?_
    refine .ret ?_
    refine We.fin Tryd.results34 (.tmp rfl .nil) (MSub.cons .here rfl MSub.nil) ?_
    obtain rfl : k = many := by omega
    exact ⟨L, eL, rfl⟩

theorem Cross_ok (key nonce : Nat → Y) (count : W) (h : Sh) (xs : List Y) (G : PM) (hs : SlR G 1 encY h xs) (hl : xs.length ≤ 140737488351232) : Ct Tryd.prog 32 ([.agg (ba 32 key).toArray, .agg (ba 12 nonce).toArray, U count, h.val xs.length] : List Value).toArray G [] (PR 5 (fun L => L = crossL key nonce count xs)) := by
  refine Ct.of Tryd.func32 rfl Tryd.ntmps32 rfl fun w0 hs0 => ?_
  refine .seq ?_
  refine Wk.rg [0, 1, 2] rfl rfl ?_
  refine bx rfl (.u rfl) rfl ?_; intro b4
  refine bx rfl (.u rfl) rfl ?_; intro b5
  refine asg rfl .no (.u rfl) ?_
  refine .nil ?_
  refine .code ?_
  refine .seq ?_
  refine Wk.rg [0, 1, 2, 3] rfl rfl ?_
  refine b0B rfl Fx.se27 ?_; intro b14
  refine mv rfl .no (.u rfl) ?_
  refine apY0 rfl Fx.se27 Fx.zv5 (.u rfl) (.u rfl) .here hs.sc (by (try simp only [List.length_append, List.length_cons, List.length_nil, yl_len]); omega) ?_
  intro v16 L16 _ ov16 eL16
  have lL16 : L16.length = xs.length := by rw [eL16]
  refine asg rfl .no (.u rfl) ?_
  refine .nil ?_
  refine .code ?_
  refine .seq ?_
  refine .seq ?_
  refine wk_rs .here ?_; intro sR16 bbR16 evR16 lcR16 oaR16; subst evR16
  obtain rfl := eL16.symm
  refine Wk.rg [0, 1] rfl rfl ?_
  refine mv rfl .no (.u rfl) ?_
  refine asg rfl .no (.u rfl) ?_
  refine .nil ?_
  refine .code ?_
  refine .block ?_
  refine Wk.lop (α := Nat × Sh × List Y) (fun gh => [(2, true, U (count + BitVec.ofNat 32 gh.1)), (10, true, gh.2.1.val (xs.length - 64 * gh.1))]) (fun gh => [rB (sR16.val xs.length) 5 gh.2.2])
    (fun gh Gl => (gh.2.2.length = xs.length) ∧ (gh.2.2 = crT key nonce count xs (64 * gh.1)) ∧ (64 * gh.1 < xs.length → gh.2.1.oa = some ⟨bbR16, 64 * gh.1, none⟩) ∧ (xs.length - 64 * gh.1 ≤ gh.2.1.cap)) (fun gh => xs.length - 64 * gh.1) (0, sR16, xs) [(4, true, _), (5, true, _), (9, true, _)] [_, _]
    (ESub.cons rfl (by simp) (ESub.cons rfl rfl (ESub.cons rfl rfl (ESub.cons rfl rfl (ESub.cons rfl rfl ESub.nil)))))
    (MSub.cons .here rfl (MSub.cons .here rfl (MSub.cons .here rfl MSub.nil))) ?_ ?_
  · refine ⟨?_, ?_, ?_, ?_⟩
    · (try dsimp only) <;> (rfl)
    · (try dsimp only) <;> (exact (crT_zero _ _ _ _).symm)
    · (try dsimp only) <;> (exact oaR16)
    · (try dsimp only) <;> (exact lcR16)
  intro gh N0 Gl0 hN0 hGl0 hF0
  obtain ⟨j, r, L⟩ := gh; dsimp only at hF0 hN0 ⊢
  obtain ⟨lL, eL, hr, hrc⟩ := hF0
  have hs := hs.mono hGl0
  refine .seq ?_
  refine .seq ?_
  refine Wk.rg [0, 1, 2] rfl rfl ?_
  refine mv rfl .no (.u rfl) ?_
  refine ln rfl .no Fx.sn27 (.u rfl) ?_
  refine cp rfl .no (.u rfl) (.u rfl) rfl ?_
  refine .nil ?_
  refine .code ?_
  refine .cond rfl (fun c1 => ?_) (fun c1 => ?_)
  · have c1k := c1
    try simp only [decide_eq_true_eq, decide_eq_false_iff_not, Int.not_lt, Int.not_le, gt_iff_lt, ge_iff_le, Bool.or_eq_true, Bool.and_eq_true, Bool.or_eq_false_iff, Bool.not_eq_true', Bool.not_eq_false', Int.toNat_natCast, bne_iff_ne, beq_iff_eq, bne_eq_false_iff_eq, beq_eq_false_iff_ne, ne_eq] at c1
    refine .skip ?_
    refine .code ?_
    refine .seq ?_
    refine .block ?_
    refine .seq ?_
    have hlt : 64 * j < xs.length := by omega
    have e1 := oaR16 (by omega)
    have e2 := hr hlt
    obtain ⟨so, sc⟩ := sR16
    obtain ⟨ro, rc⟩ := r
    simp only at e1 e2
    subst e1; subst e2
    refine Wk.rg [0, 1, 2, 3, 4, 5] rfl rfl ?_
    refine lA rfl .no Fx.ag22 (.u rfl) (fun _ => RdN.own (.there (.there .here))) (fun _ => (by first | exact (ba_len _ _).trans (ba_len _ _).symm | exact (wa_len _ _).trans (wa_len _ _).symm | exact ba_len _ _ | exact wa_len _ _ | rfl | (simp only [wa_len, ba_len, List.length_append, List.length_cons, List.length_nil]))) ?_
    refine lA rfl .no Fx.ag25 (.u rfl) (fun _ => RdN.own (.there .here)) (fun _ => (by first | exact (ba_len _ _).trans (ba_len _ _).symm | exact (wa_len _ _).trans (wa_len _ _).symm | exact ba_len _ _ | exact wa_len _ _ | rfl | (simp only [wa_len, ba_len, List.length_append, List.length_cons, List.length_nil]))) ?_
    refine mv rfl .no (.u rfl) ?_
    refine kv rfl .no Fx.go51 (Eva.cons (.u rfl) (Eva.cons (.u rfl) (Eva.cons (.u rfl) Eva.nil))) (fun _ => Block_ok _ _ _ _) ?_
    refine al rfl Fx.zr85 ?_; intro b11
    refine sw rfl (.u rfl) (.u rfl) rfl Fx.sz85 .here (by first | exact (ba_len _ _).trans (ba_len _ _).symm | exact (wa_len _ _).trans (wa_len _ _).symm | exact ba_len _ _ | exact wa_len _ _ | rfl | (simp only [wa_len, ba_len, List.length_append, List.length_cons, List.length_nil])) (ba_one _ _) ?_
    refine .nil ?_
    refine .code ?_
    refine .seq ?_
    refine Wk.rg [0, 1, 2, 3] rfl rfl ?_
    refine mv rfl .no (.u rfl) ?_
    refine ln rfl .no Fx.sn27 (.u rfl) ?_
    refine mIn ((xs.length - 64 * j)) (64) rfl .no (.u rfl) (.u rfl) (fun _ => by omega) (fun _ => by omega) ?_
    refine asg rfl .no (.u rfl) ?_
    refine .nil ?_
    refine .code ?_
    refine .seq ?_
    refine .seq ?_
    refine Wk.rg [0, 1] rfl rfl ?_
    refine mv rfl .no (.u rfl) ?_
    refine mv rfl .no (.u rfl) ?_
    refine .nil ?_
    refine .code ?_
    refine .block ?_
    refine Wk.lop (α := Nat × List Y) (fun gh => [(31, true, .int .i64 (gh.1 : Int))]) (fun gh => [rB (Sh.val ⟨some ⟨bbR16, 0, none⟩, sc⟩ xs.length) 5 gh.2])
      (fun gh Gl => (gh.1 ≤ min (xs.length - 64 * j) 64) ∧ (gh.2 = crT key nonce count xs (64 * j + gh.1))) (fun gh => 64 - gh.1) (0, L) [(2, true, _), (4, true, _), (5, true, _), (9, true, _), (10, true, _), (11, true, _), (12, true, _), (30, true, _)] [_, _, _]
      (ESub.cons rfl (by first | rfl | exact evi (by omega)) (ESub.cons rfl rfl (ESub.cons rfl rfl (ESub.cons rfl rfl (ESub.cons rfl rfl (ESub.cons rfl rfl (ESub.cons rfl rfl (ESub.cons rfl rfl (ESub.cons rfl rfl ESub.nil)))))))))
      (MSub.cons (.there .here) rfl (MSub.cons .here rfl (MSub.cons .here rfl (MSub.cons .here rfl MSub.nil)))) ?_ ?_
    · refine ⟨?_, ?_⟩
      · (try dsimp only) <;> (exact Nat.zero_le _)
      · (try dsimp only) <;> (rw [eL]; rfl)
    intro gh N1 Gl1 hN1 hGl1 hF1
    obtain ⟨i, L2⟩ := gh; dsimp only at hF1 hN1 ⊢
    obtain ⟨hi, eL2⟩ := hF1
    have hs := hs.mono hGl1
    have lL2 : L2.length = xs.length := by rw [eL2, crT_len]
    refine .seq ?_
    refine Wk.rg [0] rfl rfl ?_
    refine cp rfl .no (.u rfl) (.u rfl) rfl ?_
    refine .nil ?_
    refine .code ?_
    refine .seq ?_
    refine .cond rfl (fun c2 => ?_) (fun c2 => ?_)
    · have c2k := c2
      try simp only [decide_eq_true_eq, decide_eq_false_iff_not, Int.not_lt, Int.not_le, gt_iff_lt, ge_iff_le, Bool.or_eq_true, Bool.and_eq_true, Bool.or_eq_false_iff, Bool.not_eq_true', Bool.not_eq_false', Int.toNat_natCast, bne_iff_ne, beq_iff_eq, bne_eq_false_iff_eq, beq_eq_false_iff_ne, ne_eq] at c2
      refine .skip ?_
      refine .code ?_
      refine .seq ?_
      refine .block ?_
      refine .seq ?_
      refine Wk.rg [0, 1] rfl rfl ?_
      refine mv rfl .no (.u rfl) ?_
      refine asg rfl .no (.u rfl) ?_
      refine .nil ?_
      refine .code ?_
      refine Wk.draw (mc := ⟨false, false⟩) [0, 1, 2, 3, 4, 5, 6, 7, 8, 9] Fx.mix (by kernel_rfl) ?_
      refine mv rfl .no (.u rfl) ?_
      refine mv rfl .no (.u rfl) ?_
      refine ih rfl .no Fx.se27 (.u rfl) (.u rfl) (fun _ => by omega) (fun _ => by omega) (fun _ => rfl) ?_
      refine ld rfl .no Fx.ag5 (.u rfl) (fun _ => Rd.row .here (map_at1 (o := 64 * j) (64 * j + i) (by omega) (by omega))) ?_
      refine mv rfl .no (.u rfl) ?_
      refine iA rfl .no Fx.ar85 (.u rfl) (.u rfl) (fun _ => by omega) (fun _ => by omega) ?_
      refine ld rfl .no Fx.ag5 (.u rfl) (fun _ => Rd.own (.there .here) (by first | exact wa_at1 (i) (by omega) (by omega) | exact ba_at1 (i) (by omega) (by omega) | exact wap_at1 (i) (by omega) (by omega) | rfl)) ?_
      refine bw (k := .u8) rfl .no rfl (.u rfl) (.u rfl) rfl ?_
      refine ih rfl .no Fx.se27 (.u rfl) (.u rfl) (fun _ => by omega) (fun _ => by omega) (fun _ => rfl) ?_
      refine s1r rfl (.u rfl) (.u rfl) Fx.sz5 .here (by show 64 * j + _ * 1 < _; omega) ?_; intro L9 eL9 lL9
      refine .nil ?_
      refine .blk ?_
      refine .code ?_
      refine Wk.rg [0, 1] rfl rfl ?_
      refine arn (((i + 1) : Nat) : Int) rfl .no (.u rfl) (.u rfl) rfl (fun _ => by omega) (fun _ => wrap_i64 (by omega) (by omega)) ?_
      refine mv rfl .no (.u rfl) ?_
      refine .nil ?_
      refine We.lpo (i + 1, L9) ?_ ?_ ?_ ?_ ?_
      · exact (ESub.cons rfl (by first | rfl | exact evi (by omega)) (ESub.cons rfl rfl (ESub.cons rfl rfl (ESub.cons rfl rfl (ESub.cons rfl rfl (ESub.cons rfl rfl (ESub.cons rfl rfl (ESub.cons rfl rfl (ESub.cons rfl rfl ESub.nil)))))))))
      · exact (MSub.cons .here rfl (MSub.cons .here rfl (MSub.cons .here rfl (MSub.cons .here rfl MSub.nil))))
      · first | omega | (dsimp only; omega)
      · exact hGl1
      · refine ⟨?_, ?_⟩
        · (try dsimp only) <;> (omega)
        · (try dsimp only) <;> (rw [eL9, eL2, show (Sh.o ⟨some ⟨bbR16, 64 * j, none⟩, rc⟩ + (i : Int).toNat * 1) = 64 * j + i from (by show 64 * j + _ * 1 = _; omega)]; exact crT_step (xs := xs) (j := j) (i := i) (by omega) (by omega))
    · have c2k := c2
      try simp only [decide_eq_true_eq, decide_eq_false_iff_not, Int.not_lt, Int.not_le, gt_iff_lt, ge_iff_le, Bool.or_eq_true, Bool.and_eq_true, Bool.or_eq_false_iff, Bool.not_eq_true', Bool.not_eq_false', Int.toNat_natCast, bne_iff_ne, beq_iff_eq, bne_eq_false_iff_eq, beq_eq_false_iff_ne, ne_eq] at c2
      refine .exit ?_
      refine .xcode ?_
      refine .xlp ?_
      refine .xblk ?_
      refine .code ?_
      refine Wk.rg [0, 1, 2, 3] rfl rfl ?_
      refine mv rfl .no (.u rfl) ?_
      refine mv rfl .no (.u rfl) ?_
      refine sd rfl .no Fx.se27 (.u rfl) (.u rfl) (fun _ => by omega) (fun _ => by omega) ?_
      refine asg rfl .no (.u rfl) ?_
      refine .nil ?_
      refine .blk ?_
      refine .code ?_
      refine Wk.rg [0, 1, 2] rfl rfl ?_
      refine mv rfl .no (.u rfl) ?_
      refine bw (k := .u32) (b := 1#32) rfl .no rfl (.u rfl) (.u rfl) rfl ?_
      refine asg rfl .no (.u rfl) ?_
      refine .nil ?_
      refine We.lpo (j + 1, Sh.cut ⟨some ⟨bbR16, 64 * j, none⟩, rc⟩ (min (xs.length - 64 * j) 64) 1, L2) ?_ ?_ ?_ ?_ ?_
      · exact (ESub.cons rfl (by show U (count + BitVec.ofNat 32 j + 1#32) = U (count + BitVec.ofNat 32 (j + 1)); rw [BitVec.add_assoc, ← BitVec.ofNat_add]) (ESub.cons rfl (congrArg (Sh.val _) (by omega)) (ESub.cons rfl rfl (ESub.cons rfl rfl (ESub.cons rfl rfl ESub.nil)))))
      · exact (MSub.cons .here (by rfl) (MSub.cons (.there .here) rfl (MSub.cons (.there .here) rfl MSub.nil)))
      · first | omega | (dsimp only; omega)
      · exact (hGl0).trans hGl1
      · refine ⟨?_, ?_, ?_, ?_⟩
        · (try dsimp only) <;> (rw [eL2, crT_len])
        · (try dsimp only) <;> (rw [eL2]; exact cr_end (by omega))
        · (try dsimp only) <;> (intro h3; have hrc2 : xs.length - 64 * j ≤ rc := hrc; exact cut_oa (by omega) (by omega))
        · (try dsimp only) <;> (show _ ≤ rc - _; have hrc2 : xs.length - 64 * j ≤ rc := hrc; omega)
  · have c1k := c1
    try simp only [decide_eq_true_eq, decide_eq_false_iff_not, Int.not_lt, Int.not_le, gt_iff_lt, ge_iff_le, Bool.or_eq_true, Bool.and_eq_true, Bool.or_eq_false_iff, Bool.not_eq_true', Bool.not_eq_false', Int.toNat_natCast, bne_iff_ne, beq_iff_eq, bne_eq_false_iff_eq, beq_eq_false_iff_ne, ne_eq] at c1
    refine .exit ?_
    refine .xcode ?_
    refine .xlp ?_
    refine .xblk ?_
    refine .code ?_
    refine .seq ?_
    refine Wk.rg [0, 1] rfl rfl ?_
    refine mv rfl .no (.u rfl) ?_
    refine asg rfl .no (.u rfl) ?_
    refine .nil ?_
    refine .code ?_
    refine .ret ?_
    refine We.fin Tryd.results32 (.tmp rfl .nil) (MSub.cons .here rfl MSub.nil) ?_
    exact ⟨L, by rw [eL, crT_all (by omega)], rfl⟩

theorem shaSum_ok (ps : List (Sh × List Y)) (h : Sh) (G : PM) (hs : SlP G h ps) (hK : RdNP G 1 0 (wa 64 kW)) (hl : (catL ps).length ≤ 1152921504606846976) (hn : ps.length ≤ 1000) : Ct Tryd.prog 56 ([h.val ps.length] : List Value).toArray G [] (fun _ μ' u => μ' = [] ∧ u = .agg (ba 32 (shaD (catL ps))).toArray) := by
  refine Ct.of Tryd.func56 rfl Tryd.ntmps56 rfl fun w0 hs0 => ?_
  refine .seq ?_
  refine Wk.rg [0] rfl rfl ?_
  refine al rfl Fx.zr42 ?_; intro b2
  refine .nil ?_
  refine .code ?_
  refine .seq ?_
  refine Wk.rg [0, 1, 2] rfl rfl ?_
  refine kv rfl .no Fx.go72 Eva.nil (fun _ => begin_ok _) ?_
  refine al rfl Fx.zr114 ?_; intro b3
  refine sw rfl (.u rfl) (.u rfl) rfl Fx.sz114 .here (by rfl) (one_app (wa_one _ _) (one2 rfl rfl)) ?_
  refine .nil ?_
  refine we_nilB 5 ?_
  refine .code ?_
  refine .seq ?_
  refine .seq ?_
  refine Wk.rg [0, 1, 2] rfl rfl ?_
  refine mv rfl .no (.u rfl) ?_
  refine ln rfl .no Fx.sn50 (.u rfl) ?_
  refine mv rfl .no (.u rfl) ?_
  refine .nil ?_
  refine .code ?_
  refine .block ?_
  refine Wk.lop (α := Nat × Value) (fun gh => [(9, true, .int .i64 (gh.1 : Int))]) (fun gh => [rB gh.2 5 (restL (catL (ps.take gh.1))), .blk b3 (cl (stC (catL (ps.take gh.1)) gh.2) 114)])
    (fun gh Gl => (gh.1 ≤ ps.length)) (fun gh => ps.length - gh.1) (0, .slice none 0 0) [(2, true, _), (3, true, _), (7, true, _), (8, true, _)] [_]
    (ESub.cons rfl (by first | rfl | exact evi (by omega)) (ESub.cons rfl rfl (ESub.cons rfl rfl (ESub.cons rfl rfl (ESub.cons rfl rfl ESub.nil)))))
    (MSub.cons .here (by simp [restL, catL]) (MSub.cons .here rfl (MSub.cons .here rfl MSub.nil))) ?_ ?_
  · (try dsimp only) <;> (first | omega | rfl | assumption | (simp; done))
  intro gh N0 Gl0 hN0 hGl0 hF0
  obtain ⟨k, vq⟩ := gh; dsimp only at hF0 hN0 ⊢
  have hk := hF0
  have hs := hs.mono hGl0
  have hK := hK.mono hGl0
  refine .seq ?_
  refine Wk.rg [0] rfl rfl ?_
  refine cp rfl .no (.u rfl) (.u rfl) rfl ?_
  refine .nil ?_
  refine .code ?_
  refine .seq ?_
  refine .cond rfl (fun c1 => ?_) (fun c1 => ?_)
  · have c1k := c1
    try simp only [decide_eq_true_eq, decide_eq_false_iff_not, Int.not_lt, Int.not_le, gt_iff_lt, ge_iff_le, Bool.or_eq_true, Bool.and_eq_true, Bool.or_eq_false_iff, Bool.not_eq_true', Bool.not_eq_false', Int.toNat_natCast, bne_iff_ne, beq_iff_eq, bne_eq_false_iff_eq, beq_eq_false_iff_ne, ne_eq] at c1
    refine .skip ?_
    refine .code ?_
    refine .seq ?_
    refine .block ?_
    refine .seq ?_
    refine Wk.rg [0, 1, 2] rfl rfl ?_
    refine ih rfl .no Fx.se50 (.u rfl) (.u rfl) (fun _ => by omega) (fun _ => by omega) (fun _ => hs.sl.nn (k := k) (by omega)) ?_
    obtain ⟨p12, ep12⟩ := getx (k := k) (xs := ps) (by omega)
    have hq12 := hs.get ep12
    refine ld rfl .no Fx.ag27 (.u rfl) (fun _ => (hs.at (k) (by omega) ep12).rd) ?_
    refine asg rfl .no (.u rfl) ?_
    refine .nil ?_
    refine .code ?_
    refine Wk.rg [0, 1] rfl rfl ?_
    refine mv rfl .no (.u rfl) ?_
    refine ka rfl (.inr rfl) Fx.go73 (Eva.cons (.u rfl) (Eva.cons (.u rfl) Eva.nil)) (mtk2 (.there .here) .here) (put_ok (catL (ps.take k)) p12.2 _ _ _ _ hq12 hK (by have := cat_len ep12; omega)) ?_
    rintro _ G14 μ14 hG14 ⟨vq', rfl, rfl⟩
    have hs := hs.mono hG14
    have hK := hK.mono hG14
    have hq12 := hq12.mono hG14
    refine .nil ?_
    refine .blk ?_
    refine .code ?_
    refine Wk.rg [0, 1] rfl rfl ?_
    refine arn (((k + 1) : Nat) : Int) rfl .no (.u rfl) (.u rfl) rfl (fun _ => by omega) (fun _ => wrap_i64 (by omega) (by omega)) ?_
    refine mv rfl .no (.u rfl) ?_
    refine .nil ?_
    refine We.lpo (k + 1, vq') ?_ ?_ ?_ ?_ ?_
    · exact (ESub.cons rfl (by first | rfl | exact evi (by omega)) (ESub.cons rfl rfl (ESub.cons rfl rfl (ESub.cons rfl rfl (ESub.cons rfl rfl ESub.nil)))))
    · exact (MSub.cons (.there .here) (by rw [cat_take ep12]) (MSub.cons .here (by rw [cat_take ep12]) (MSub.cons .here rfl MSub.nil)))
    · first | omega | (dsimp only; omega)
    · exact (hGl0).trans hG14
    · (try dsimp only) <;> (first | omega | rfl | assumption | (simp; done))
  · have c1k := c1
    try simp only [decide_eq_true_eq, decide_eq_false_iff_not, Int.not_lt, Int.not_le, gt_iff_lt, ge_iff_le, Bool.or_eq_true, Bool.and_eq_true, Bool.or_eq_false_iff, Bool.not_eq_true', Bool.not_eq_false', Int.toNat_natCast, bne_iff_ne, beq_iff_eq, bne_eq_false_iff_eq, beq_eq_false_iff_ne, ne_eq] at c1
    refine .exit ?_
    refine .xcode ?_
    refine .xlp ?_
    refine .xblk ?_
    refine .code ?_
    refine .seq ?_
    obtain rfl : k = ps.length := by omega
    rw [List.take_length]
    refine Wk.rg [0, 1] rfl rfl ?_
    refine ka rfl (.inr rfl) Fx.go55 (Eva.cons (.u rfl) Eva.nil) (mtk2 (.there .here) .here) (StSum_ok (catL ps) _ _ _ hK hl) ?_
    rintro _ G16 μ16 hG16 ⟨rfl, rfl⟩
    have hs := hs.mono hG16
    have hK := hK.mono hG16
    refine sw rfl (.u rfl) (.u rfl) rfl Fx.sz42 (.there (.there .here)) (by first | exact (ba_len _ _).trans (ba_len _ _).symm | exact (wa_len _ _).trans (wa_len _ _).symm | exact ba_len _ _ | exact wa_len _ _ | rfl | (simp only [wa_len, ba_len, List.length_append, List.length_cons, List.length_nil])) (by first | exact ba_one _ _ | exact wa_one _ _ | exact one_V _ | decide | exact one_app (wa_one _ _) (by simp [Value.oneCell'])) ?_
    refine .nil ?_
    refine .code ?_
    refine .ret ?_
    refine We.fin0 Tryd.results56 (.cell rfl (fun w hw => run_loadVarN Fx.ag42 (RdN.own .here) ((by first | exact (ba_len _ _).trans (ba_len _ _).symm | exact (wa_len _ _).trans (wa_len _ _).symm | exact ba_len _ _ | exact wa_len _ _ | rfl | (simp only [wa_len, ba_len, List.length_append, List.length_cons, List.length_nil]))) hw) .nil) ?_
    exact ⟨rfl, rfl⟩

end Go.Proofs.YtoogjfldgeiapaaDoor
