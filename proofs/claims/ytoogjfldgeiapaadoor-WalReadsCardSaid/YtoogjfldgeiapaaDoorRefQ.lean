/- Contracts of functions, walked. -/
import Derived.Test.YtoogjfldgeiapaaDoorRefP
namespace Go.Proofs.YtoogjfldgeiapaaDoor
set_option linter.unusedSimpArgs false
set_option linter.unusedVariables false
open Go.Tan Go.RowKit

namespace Fx
theorem go59 : goFn Tryd.prog 59 = true := by kernel_rfl
theorem go58 : goFn Tryd.prog 58 = true := by kernel_rfl
theorem go36 : goFn Tryd.prog 36 = true := by kernel_rfl
theorem go37 : goFn Tryd.prog 37 = true := by kernel_rfl
theorem go19 : goFn Tryd.prog 19 = true := by kernel_rfl
theorem go35 : goFn Tryd.prog 35 = true := by kernel_rfl
end Fx
theorem rFix_ok (n : BitVec 64) (many : Nat) (G : PM) (hm : many ≤ 8) : Ct Tryd.prog 36 ([uv .u64 n, .int .i64 (many : Int)] : List Value).toArray G [] (PR 5 (fun L => L = fixL n many)) := by
  refine Ct.of Tryd.func36 rfl Tryd.ntmps36 rfl fun w0 hs0 => ?_
  refine .seq ?_
  refine Wk.rg [0] rfl rfl ?_
  refine asg rfl .no (.u rfl) ?_
  refine .nil ?_
  refine .code ?_
  refine .seq ?_
  refine Wk.rg [0] rfl rfl ?_
  refine asg rfl .no (.u rfl) ?_
  refine .nil ?_
  refine .code ?_
  refine .seq ?_
  refine .seq ?_
  refine wk_nilB 5 ?_
  refine Wk.rg [0] rfl rfl ?_
  refine asg rfl .no (.u rfl) ?_
  refine .nil ?_
  refine .code ?_
  refine .block ?_
  refine Wk.lop (α := Nat × Value × List Y × BitVec 64) (fun gh => [(0, true, uv .u64 gh.2.2.2), (5, true, gh.2.1), (6, true, .int .i64 (gh.1 : Int))]) (fun gh => [rB gh.2.1 5 gh.2.2.1])
    (fun gh Gl => (gh.1 ≤ many) ∧ (gh.2.2.1 = fixL n gh.1) ∧ (gh.2.2.2 = n >>> (8 * gh.1))) (fun gh => many - gh.1) (0, .slice none 0 0, [], n) [(1, true, _)] []
    (ESub.cons rfl rfl (ESub.cons rfl rfl (ESub.cons rfl (by first | rfl | exact evi (by omega)) (ESub.cons rfl rfl ESub.nil))))
    (MSub.cons .here rfl MSub.nil) ?_ ?_
  · refine ⟨?_, ?_, ?_⟩
    · (try dsimp only) <;> (first | omega | rfl | assumption | (simp; done))
    · (try dsimp only) <;> (rfl)
    · (try dsimp only) <;> (simp)
  intro gh N0 Gl0 hN0 hGl0 hF0
  obtain ⟨k, v, L, m⟩ := gh; dsimp only at hF0 hN0 ⊢
  obtain ⟨hk, eL, em⟩ := hF0
  have lL : L.length = k := by rw [eL, fix_len]
  refine .seq ?_
  refine .seq ?_
  refine Wk.rg [0, 1, 2, 3, 4, 5, 6] rfl rfl ?_
  refine mv rfl .no (.u rfl) ?_
  refine mv rfl .no (.u rfl) ?_
  refine cp rfl .no (.u rfl) (.u rfl) rfl ?_
  refine mv rfl .no (.u rfl) ?_
  refine mv rfl (.t rfl rfl) (.u rfl) ?_
  refine cp rfl (.t rfl rfl) (.s rfl) (.u rfl) rfl ?_
  refine pkA rfl .no (.u rfl) (.s rfl) ?_
  refine .nil ?_
  refine .code ?_
  refine .cond rfl (fun c1 => ?_) (fun c1 => ?_)
  · have c1k := c1
    try simp only [decide_eq_true_eq, decide_eq_false_iff_not, Int.not_lt, Int.not_le, gt_iff_lt, ge_iff_le, Bool.or_eq_true, Bool.and_eq_true, Bool.or_eq_false_iff, Bool.and_eq_false_iff, Bool.not_eq_true', Bool.not_eq_false', Int.toNat_natCast, bne_iff_ne, beq_iff_eq, bne_eq_false_iff_eq, beq_eq_false_iff_ne, ne_eq] at c1
    refine .skip ?_
    refine .code ?_
    refine .seq ?_
    refine .block ?_
    refine .seq ?_
    refine Wk.rg [0, 1, 2, 3, 4, 5, 6] rfl rfl ?_
    refine mv rfl .no (.u rfl) ?_
    refine mv rfl .no (.u rfl) ?_
    refine mw (k := .u64) (b := 256#64) rfl .no (.u rfl) (.u rfl) (fun _ => show (256#64 : BitVec 64) ≠ 0#64 by decide) ?_
    refine cu (k := .u64) rfl .no rfl Fx.cv43_5 (.u rfl) ?_
    refine Go.Tan.b1 rfl Fx.se27 Fx.zv5 (.u rfl) rfl rfl (by decide) ?_; intro b20
    refine apY rfl Fx.se27 Fx.zv5 (.u rfl) (.u rfl) (.there .here) (Sc.one .here) (by show _ + 1 ≤ _; omega) ?_
    intro v21 L21 ov21 eL21
    have lL21 : L21.length = L.length + 1 := by rw [eL21, List.length_append]; first | rfl | simp [yl_len]
    refine asg rfl .no (.u rfl) ?_
    refine .nil ?_
    refine .code ?_
    refine Wk.rg [0, 1, 2] rfl rfl ?_
    refine mv rfl .no (.u rfl) ?_
    refine dw (k := .u64) (b := 256#64) rfl .no rfl (.u rfl) (.u rfl) (fun _ => show (256#64 : BitVec 64) ≠ 0#64 by decide) ?_
    refine asg rfl .no (.u rfl) ?_
    refine .nil ?_
    refine .blk ?_
    refine .code ?_
    refine Wk.rg [0, 1, 2] rfl rfl ?_
    refine mv rfl .no (.u rfl) ?_
    refine arn (((k + 1) : Nat) : Int) rfl .no (.u rfl) (.u rfl) rfl (fun _ => by omega) (fun _ => wrap_i64 (by omega) (by omega)) ?_
    refine asg rfl .no (.u rfl) ?_
    refine .nil ?_
    refine We.lpo (k + 1, v21, L21, m / 256#64) ?_ ?_ ?_ ?_ ?_
    · exact (ESub.cons rfl rfl (ESub.cons rfl rfl (ESub.cons rfl (by first | rfl | exact evi (by omega)) (ESub.cons rfl rfl ESub.nil))))
    · exact (MSub.cons .here rfl MSub.nil)
    · first | omega | (dsimp only; omega)
    · exact hGl0
    · refine ⟨?_, ?_, ?_⟩
      · (try dsimp only) <;> (first | omega | rfl | assumption | (simp; done))
      · (try dsimp only) <;> (rw [eL21, eL, em, fix_snoc, ← byte_mod]; rfl)
      · (try dsimp only) <;> (rw [em, div256, ← BitVec.shiftRight_add]; rfl)
  · have c1k := c1
    try simp only [decide_eq_true_eq, decide_eq_false_iff_not, Int.not_lt, Int.not_le, gt_iff_lt, ge_iff_le, Bool.or_eq_true, Bool.and_eq_true, Bool.or_eq_false_iff, Bool.and_eq_false_iff, Bool.not_eq_true', Bool.not_eq_false', Int.toNat_natCast, bne_iff_ne, beq_iff_eq, bne_eq_false_iff_eq, beq_eq_false_iff_ne, ne_eq] at c1
    refine .exit ?_
    refine .xcode ?_
    refine .xlp ?_
    refine .xblk ?_
    refine .code ?_
    refine .seq ?_
    refine Wk.rg [0, 1] rfl rfl ?_
    refine mv rfl .no (.u rfl) ?_
    refine asg rfl .no (.u rfl) ?_
    refine .nil ?_
    refine .code ?_
    refine .ret ?_
    refine We.fin Tryd.results36 (.tmp rfl .nil) (MSub.cons .here rfl MSub.nil) ?_
    obtain rfl : k = many := by omega
    exact ⟨L, eL, rfl⟩

theorem crossed_ok (key : List Y) (h : Sh) (b : Y) (G : PM) (hs : SlR G 1 encY h key) (hR : RdNP G 0 0 (wa 64 kW)) (hl : key.length ≤ 1000000000000) : Ct Tryd.prog 58 ([h.val key.length, V b] : List Value).toArray G [] (PR 5 (fun L => L = yl 64 (padF key b))) := by
  refine Ct.of Tryd.func58 rfl Tryd.ntmps58 rfl fun w0 hs0 => ?_
  refine .seq ?_
  refine Wk.rg [0] rfl rfl ?_
  refine asg rfl .no (.u rfl) ?_
  refine .nil ?_
  refine .code ?_
  refine .seq ?_
  refine Wk.rg [0, 1] rfl rfl ?_
  refine mv rfl .no (.u rfl) ?_
  refine asg rfl .no (.u rfl) ?_
  refine .nil ?_
  refine .code ?_
  refine .seq ?_
  refine .seq ?_
  refine Wk.rg [0, 1, 2] rfl rfl ?_
  refine mv rfl .no (.u rfl) ?_
  refine ln rfl .no Fx.sn27 (.u rfl) ?_
  refine cp rfl .no (.u rfl) (.u rfl) rfl ?_
  refine .nil ?_
  refine .code ?_
  refine .cond rfl (fun c1 => ?_) (fun c1 => ?_)
  · have c1k := c1
    try simp only [decide_eq_true_eq, decide_eq_false_iff_not, Int.not_lt, Int.not_le, gt_iff_lt, ge_iff_le, Bool.or_eq_true, Bool.and_eq_true, Bool.or_eq_false_iff, Bool.not_eq_true', Bool.not_eq_false', Int.toNat_natCast, bne_iff_ne, beq_iff_eq, bne_eq_false_iff_eq, beq_eq_false_iff_ne, ne_eq] at c1
    have ek1 : keyL key = shaL key := by unfold keyL; rw [if_pos (by omega)]
    refine .seq ?_
    refine Wk.rg [0, 1, 2, 3] rfl rfl ?_
    refine mv rfl .no (.u rfl) ?_
    refine kv rfl .no Fx.go59 (Eva.cons (.u rfl) Eva.nil) (fun _ => rSum_ok key h _ hs hR hl) ?_
    refine al rfl Fx.zr42 ?_; intro b6
    refine sw rfl (.u rfl) (.u rfl) rfl Fx.sz42 .here (by first | exact (ba_len _ _).trans (ba_len _ _).symm | exact (wa_len _ _).trans (wa_len _ _).symm | exact ba_len _ _ | exact wa_len _ _ | rfl | (simp only [wa_len, ba_len, List.length_append, List.length_cons, List.length_nil])) (by first | exact ba_one _ _ | exact wa_one _ _ | exact one_V _ | decide | exact one_app (wa_one _ _) (by simp [Value.oneCell'])) ?_
    refine .nil ?_
    refine .code ?_
    refine wk_fz .here (by intro b hb; cases hb) ?_; intro Gfb6 hleb6 hbb6
    have hs := hs.mono hleb6
    have hR := hR.mono hleb6
    refine Wk.rg [0, 1] rfl rfl ?_
    refine kA rfl .no Fx.ar42 (.u rfl) hbb6 (by first | exact ba_all | exact app_l | exact app_r) ?_; intro h16 L16 eL16 lL16 hs16
    refine asg rfl .no (.u rfl) ?_
    refine .nil ?_
    have ek1 : keyL key = L16 := by rw [ek1, eL16]; rfl
    refine .code ?_
    refine .seq ?_
    refine Wk.rg [0] rfl rfl ?_
    refine asg rfl .no (.u rfl) ?_
    refine .nil ?_
    refine .code ?_
    refine .seq ?_
    refine .seq ?_
    refine wk_nilB 5 ?_
    refine Wk.rg [0] rfl rfl ?_
    refine asg rfl .no (.u rfl) ?_
    refine .nil ?_
    refine .code ?_
    refine .block ?_
    refine Wk.lop (α := Nat × Value × List Y) (fun gh => [(7, true, gh.2.1), (8, true, .int .i64 (gh.1 : Int))]) (fun gh => [rB gh.2.1 5 gh.2.2])
      (fun gh Gl => (gh.1 ≤ 64) ∧ (gh.2.2 = yl gh.1 (padF key b))) (fun gh => 64 - gh.1) (0, .slice none 0 0, []) [(1, true, _), (5, true, _)] []
      (ESub.cons rfl rfl (ESub.cons rfl (by first | rfl | exact evi (by omega)) (ESub.cons rfl rfl (ESub.cons rfl rfl ESub.nil))))
      (MSub.cons .here rfl MSub.nil) ?_ ?_
    · refine ⟨?_, ?_⟩
      · (try dsimp only) <;> (first | omega | rfl | assumption | (simp; done))
      · (try dsimp only) <;> (rfl)
    intro gh N0 Gl0 hN0 hGl0 hF0
    obtain ⟨k, v, M⟩ := gh; dsimp only at hF0 hN0 ⊢
    obtain ⟨hk, eM⟩ := hF0
    have hs := hs.mono hGl0
    have hR := hR.mono hGl0
    have hbb6 := hbb6.mono hGl0
    have hs16 := hs16.mono hGl0
    have lM : M.length = k := by rw [eM, yl_len]
    refine .seq ?_
    refine .seq ?_
    refine Wk.rg [0, 1] rfl rfl ?_
    refine mv rfl .no (.u rfl) ?_
    refine cp rfl .no (.u rfl) (.u rfl) rfl ?_
    refine .nil ?_
    refine .code ?_
    refine .cond rfl (fun c2 => ?_) (fun c2 => ?_)
    · have c2k := c2
      try simp only [decide_eq_true_eq, decide_eq_false_iff_not, Int.not_lt, Int.not_le, gt_iff_lt, ge_iff_le, Bool.or_eq_true, Bool.and_eq_true, Bool.or_eq_false_iff, Bool.not_eq_true', Bool.not_eq_false', Int.toNat_natCast, bne_iff_ne, beq_iff_eq, bne_eq_false_iff_eq, beq_eq_false_iff_ne, ne_eq] at c2
      refine .skip ?_
      refine .code ?_
      refine .seq ?_
      refine .block ?_
      refine .seq ?_
      refine Wk.rg [0] rfl rfl ?_
      refine asg rfl .no (.u rfl) ?_
      refine .nil ?_
      refine .code ?_
      refine .seq ?_
      refine .seq ?_
      refine Wk.rg [0, 1, 2, 3] rfl rfl ?_
      refine mv rfl .no (.u rfl) ?_
      refine mv rfl .no (.u rfl) ?_
      refine ln rfl .no Fx.sn27 (.u rfl) ?_
      refine cp rfl .no (.u rfl) (.u rfl) rfl ?_
      refine .nil ?_
      refine .code ?_
      refine .cond rfl (fun c3 => ?_) (fun c3 => ?_)
      · have c3k := c3
        try simp only [decide_eq_true_eq, decide_eq_false_iff_not, Int.not_lt, Int.not_le, gt_iff_lt, ge_iff_le, Bool.or_eq_true, Bool.and_eq_true, Bool.or_eq_false_iff, Bool.not_eq_true', Bool.not_eq_false', Int.toNat_natCast, bne_iff_ne, beq_iff_eq, bne_eq_false_iff_eq, beq_eq_false_iff_ne, ne_eq] at c3
        refine Wk.rg [0, 1, 2, 3, 4] rfl rfl ?_
        refine mv rfl .no (.u rfl) ?_
        refine mv rfl .no (.u rfl) ?_
        refine ih rfl .no Fx.se27 (.u rfl) (.u rfl) (fun _ => by omega) (fun _ => by omega) (fun _ => hs16.nn (k := k) (by omega)) ?_
        refine ld rfl .no Fx.ag5 (.u rfl) (fun _ => (hs16.yat (k) (by omega) (by omega)).rd) ?_
        refine asg rfl .no (.u rfl) ?_
        refine .nil ?_
        refine .code ?_
        refine Wk.rg [0, 1, 2, 3, 4, 5, 6] rfl rfl ?_
        refine mv rfl .no (.u rfl) ?_
        refine mv rfl .no (.u rfl) ?_
        refine mv rfl .no (.u rfl) ?_
        refine bw (k := .u8) rfl .no rfl (.u rfl) (.u rfl) rfl ?_
        refine Go.Tan.b1 rfl Fx.se27 Fx.zv5 (.u rfl) rfl rfl (by decide) ?_; intro b33
        refine apY rfl Fx.se27 Fx.zv5 (.u rfl) (.u rfl) (.there .here) (Sc.one .here) (by show _ + 1 ≤ _; omega) ?_
        intro v34 L34 ov34 eL34
        have lL34 : L34.length = M.length + 1 := by rw [eL34, List.length_append]; first | rfl | simp [yl_len]
        refine asg rfl .no (.u rfl) ?_
        refine .nil ?_
        refine .blk ?_
        refine .code ?_
        refine Wk.rg [0, 1, 2] rfl rfl ?_
        refine mv rfl .no (.u rfl) ?_
        refine arn (((k + 1) : Nat) : Int) rfl .no (.u rfl) (.u rfl) rfl (fun _ => by omega) (fun _ => wrap_i64 (by omega) (by omega)) ?_
        refine asg rfl .no (.u rfl) ?_
        refine .nil ?_
        refine We.lpo (k + 1, v34, L34) ?_ ?_ ?_ ?_ ?_
        · exact (ESub.cons rfl rfl (ESub.cons rfl (by first | rfl | exact evi (by omega)) (ESub.cons rfl rfl (ESub.cons rfl rfl ESub.nil))))
        · exact (MSub.cons .here rfl MSub.nil)
        · first | omega | (dsimp only; omega)
        · exact hGl0
        · refine ⟨?_, ?_⟩
          · (try dsimp only) <;> (first | omega | rfl | assumption | (simp; done))
          · (try dsimp only) <;> (rw [eL34, eM, yl_snoc, padF, ek1, if_pos (by omega), BitVec.xor_comm b]; rfl)
      · have c3k := c3
        try simp only [decide_eq_true_eq, decide_eq_false_iff_not, Int.not_lt, Int.not_le, gt_iff_lt, ge_iff_le, Bool.or_eq_true, Bool.and_eq_true, Bool.or_eq_false_iff, Bool.not_eq_true', Bool.not_eq_false', Int.toNat_natCast, bne_iff_ne, beq_iff_eq, bne_eq_false_iff_eq, beq_eq_false_iff_ne, ne_eq] at c3
        refine .skip ?_
        refine .code ?_
        refine Wk.rg [0, 1, 2, 3, 4, 5, 6] rfl rfl ?_
        refine mv rfl .no (.u rfl) ?_
        refine mv rfl .no (.u rfl) ?_
        refine mv rfl .no (.u rfl) ?_
        refine bw (k := .u8) (a := 0#8) rfl .no rfl (.u rfl) (.u rfl) rfl ?_
        refine Go.Tan.b1 rfl Fx.se27 Fx.zv5 (.u rfl) rfl rfl (by decide) ?_; intro b33
        refine apY rfl Fx.se27 Fx.zv5 (.u rfl) (.u rfl) (.there .here) (Sc.one .here) (by show _ + 1 ≤ _; omega) ?_
        intro v34 L34 ov34 eL34
        have lL34 : L34.length = M.length + 1 := by rw [eL34, List.length_append]; first | rfl | simp [yl_len]
        refine asg rfl .no (.u rfl) ?_
        refine .nil ?_
        refine .blk ?_
        refine .code ?_
        refine Wk.rg [0, 1, 2] rfl rfl ?_
        refine mv rfl .no (.u rfl) ?_
        refine arn (((k + 1) : Nat) : Int) rfl .no (.u rfl) (.u rfl) rfl (fun _ => by omega) (fun _ => wrap_i64 (by omega) (by omega)) ?_
        refine asg rfl .no (.u rfl) ?_
        refine .nil ?_
        refine We.lpo (k + 1, v34, L34) ?_ ?_ ?_ ?_ ?_
        · exact (ESub.cons rfl rfl (ESub.cons rfl (by first | rfl | exact evi (by omega)) (ESub.cons rfl rfl (ESub.cons rfl rfl ESub.nil))))
        · exact (MSub.cons .here rfl MSub.nil)
        · first | omega | (dsimp only; omega)
        · exact hGl0
        · refine ⟨?_, ?_⟩
          · (try dsimp only) <;> (first | omega | rfl | assumption | (simp; done))
          · (try dsimp only) <;> (rw [eL34, eM, yl_snoc, padF, ek1, if_neg (by omega)]; exact congrArg (fun z => yl k (padF key b) ++ [z]) BitVec.zero_xor)
    · have c2k := c2
      try simp only [decide_eq_true_eq, decide_eq_false_iff_not, Int.not_lt, Int.not_le, gt_iff_lt, ge_iff_le, Bool.or_eq_true, Bool.and_eq_true, Bool.or_eq_false_iff, Bool.not_eq_true', Bool.not_eq_false', Int.toNat_natCast, bne_iff_ne, beq_iff_eq, bne_eq_false_iff_eq, beq_eq_false_iff_ne, ne_eq] at c2
      refine .exit ?_
      refine .xcode ?_
      refine .xlp ?_
      refine .xblk ?_
      refine .code ?_
      refine .seq ?_
      refine Wk.rg [0, 1] rfl rfl ?_
      refine mv rfl .no (.u rfl) ?_
      refine asg rfl .no (.u rfl) ?_
      refine .nil ?_
      refine .code ?_
      refine .ret ?_
      refine We.fin Tryd.results58 (.tmp rfl .nil) (MSub.cons .here rfl MSub.nil) ?_
      obtain rfl : k = 64 := by omega
      exact ⟨M, eM, rfl⟩
  · have c1k := c1
    try simp only [decide_eq_true_eq, decide_eq_false_iff_not, Int.not_lt, Int.not_le, gt_iff_lt, ge_iff_le, Bool.or_eq_true, Bool.and_eq_true, Bool.or_eq_false_iff, Bool.not_eq_true', Bool.not_eq_false', Int.toNat_natCast, bne_iff_ne, beq_iff_eq, bne_eq_false_iff_eq, beq_eq_false_iff_ne, ne_eq] at c1
    have ek2 : keyL key = key := by unfold keyL; rw [if_neg (by omega)]
    refine .skip ?_
    refine .code ?_
    refine .seq ?_
    refine Wk.rg [0] rfl rfl ?_
    refine asg rfl .no (.u rfl) ?_
    refine .nil ?_
    refine .code ?_
    refine .seq ?_
    refine .seq ?_
    refine wk_nilB 5 ?_
    refine Wk.rg [0] rfl rfl ?_
    refine asg rfl .no (.u rfl) ?_
    refine .nil ?_
    refine .code ?_
    refine .block ?_
    refine Wk.lop (α := Nat × Value × List Y) (fun gh => [(7, true, gh.2.1), (8, true, .int .i64 (gh.1 : Int))]) (fun gh => [rB gh.2.1 5 gh.2.2])
      (fun gh Gl => (gh.1 ≤ 64) ∧ (gh.2.2 = yl gh.1 (padF key b))) (fun gh => 64 - gh.1) (0, .slice none 0 0, []) [(1, true, _), (5, true, _)] []
      (ESub.cons rfl rfl (ESub.cons rfl (by first | rfl | exact evi (by omega)) (ESub.cons rfl rfl (ESub.cons rfl rfl ESub.nil))))
      (MSub.cons .here rfl MSub.nil) ?_ ?_
    · refine ⟨?_, ?_⟩
      · (try dsimp only) <;> (first | omega | rfl | assumption | (simp; done))
      · (try dsimp only) <;> (rfl)
    intro gh N1 Gl1 hN1 hGl1 hF1
    obtain ⟨k, v, M⟩ := gh; dsimp only at hF1 hN1 ⊢
    obtain ⟨hk, eM⟩ := hF1
    have hs := hs.mono hGl1
    have hR := hR.mono hGl1
    have lM : M.length = k := by rw [eM, yl_len]
    refine .seq ?_
    refine .seq ?_
    refine Wk.rg [0, 1] rfl rfl ?_
    refine mv rfl .no (.u rfl) ?_
    refine cp rfl .no (.u rfl) (.u rfl) rfl ?_
    refine .nil ?_
    refine .code ?_
    refine .cond rfl (fun c4 => ?_) (fun c4 => ?_)
    · have c4k := c4
      try simp only [decide_eq_true_eq, decide_eq_false_iff_not, Int.not_lt, Int.not_le, gt_iff_lt, ge_iff_le, Bool.or_eq_true, Bool.and_eq_true, Bool.or_eq_false_iff, Bool.not_eq_true', Bool.not_eq_false', Int.toNat_natCast, bne_iff_ne, beq_iff_eq, bne_eq_false_iff_eq, beq_eq_false_iff_ne, ne_eq] at c4
      refine .skip ?_
      refine .code ?_
      refine .seq ?_
      refine .block ?_
      refine .seq ?_
      refine Wk.rg [0] rfl rfl ?_
      refine asg rfl .no (.u rfl) ?_
      refine .nil ?_
      refine .code ?_
      refine .seq ?_
      refine .seq ?_
      refine Wk.rg [0, 1, 2, 3] rfl rfl ?_
      refine mv rfl .no (.u rfl) ?_
      refine mv rfl .no (.u rfl) ?_
      refine ln rfl .no Fx.sn27 (.u rfl) ?_
      refine cp rfl .no (.u rfl) (.u rfl) rfl ?_
      refine .nil ?_
      refine .code ?_
      refine .cond rfl (fun c5 => ?_) (fun c5 => ?_)
      · have c5k := c5
        try simp only [decide_eq_true_eq, decide_eq_false_iff_not, Int.not_lt, Int.not_le, gt_iff_lt, ge_iff_le, Bool.or_eq_true, Bool.and_eq_true, Bool.or_eq_false_iff, Bool.not_eq_true', Bool.not_eq_false', Int.toNat_natCast, bne_iff_ne, beq_iff_eq, bne_eq_false_iff_eq, beq_eq_false_iff_ne, ne_eq] at c5
        refine Wk.rg [0, 1, 2, 3, 4] rfl rfl ?_
        refine mv rfl .no (.u rfl) ?_
        refine mv rfl .no (.u rfl) ?_
        refine ih rfl .no Fx.se27 (.u rfl) (.u rfl) (fun _ => by omega) (fun _ => by omega) (fun _ => hs.nn (k := k) (by omega)) ?_
        refine ld rfl .no Fx.ag5 (.u rfl) (fun _ => (hs.yat (k) (by omega) (by omega)).rd) ?_
        refine asg rfl .no (.u rfl) ?_
        refine .nil ?_
        refine .code ?_
        refine Wk.rg [0, 1, 2, 3, 4, 5, 6] rfl rfl ?_
        refine mv rfl .no (.u rfl) ?_
        refine mv rfl .no (.u rfl) ?_
        refine mv rfl .no (.u rfl) ?_
        refine bw (k := .u8) rfl .no rfl (.u rfl) (.u rfl) rfl ?_
        refine Go.Tan.b1 rfl Fx.se27 Fx.zv5 (.u rfl) rfl rfl (by decide) ?_; intro b33
        refine apY rfl Fx.se27 Fx.zv5 (.u rfl) (.u rfl) (.there .here) (Sc.one .here) (by show _ + 1 ≤ _; omega) ?_
        intro v34 L34 ov34 eL34
        have lL34 : L34.length = M.length + 1 := by rw [eL34, List.length_append]; first | rfl | simp [yl_len]
        refine asg rfl .no (.u rfl) ?_
        refine .nil ?_
        refine .blk ?_
        refine .code ?_
        refine Wk.rg [0, 1, 2] rfl rfl ?_
        refine mv rfl .no (.u rfl) ?_
        refine arn (((k + 1) : Nat) : Int) rfl .no (.u rfl) (.u rfl) rfl (fun _ => by omega) (fun _ => wrap_i64 (by omega) (by omega)) ?_
        refine asg rfl .no (.u rfl) ?_
        refine .nil ?_
        refine We.lpo (k + 1, v34, L34) ?_ ?_ ?_ ?_ ?_
        · exact (ESub.cons rfl rfl (ESub.cons rfl (by first | rfl | exact evi (by omega)) (ESub.cons rfl rfl (ESub.cons rfl rfl ESub.nil))))
        · exact (MSub.cons .here rfl MSub.nil)
        · first | omega | (dsimp only; omega)
        · exact hGl1
        · refine ⟨?_, ?_⟩
          · (try dsimp only) <;> (first | omega | rfl | assumption | (simp; done))
          · (try dsimp only) <;> (rw [eL34, eM, yl_snoc, padF, ek2, if_pos (by omega), BitVec.xor_comm b]; rfl)
      · have c5k := c5
        try simp only [decide_eq_true_eq, decide_eq_false_iff_not, Int.not_lt, Int.not_le, gt_iff_lt, ge_iff_le, Bool.or_eq_true, Bool.and_eq_true, Bool.or_eq_false_iff, Bool.not_eq_true', Bool.not_eq_false', Int.toNat_natCast, bne_iff_ne, beq_iff_eq, bne_eq_false_iff_eq, beq_eq_false_iff_ne, ne_eq] at c5
        refine .skip ?_
        refine .code ?_
        refine Wk.rg [0, 1, 2, 3, 4, 5, 6] rfl rfl ?_
        refine mv rfl .no (.u rfl) ?_
        refine mv rfl .no (.u rfl) ?_
        refine mv rfl .no (.u rfl) ?_
        refine bw (k := .u8) (a := 0#8) rfl .no rfl (.u rfl) (.u rfl) rfl ?_
        refine Go.Tan.b1 rfl Fx.se27 Fx.zv5 (.u rfl) rfl rfl (by decide) ?_; intro b33
        refine apY rfl Fx.se27 Fx.zv5 (.u rfl) (.u rfl) (.there .here) (Sc.one .here) (by show _ + 1 ≤ _; omega) ?_
        intro v34 L34 ov34 eL34
        have lL34 : L34.length = M.length + 1 := by rw [eL34, List.length_append]; first | rfl | simp [yl_len]
        refine asg rfl .no (.u rfl) ?_
        refine .nil ?_
        refine .blk ?_
        refine .code ?_
        refine Wk.rg [0, 1, 2] rfl rfl ?_
        refine mv rfl .no (.u rfl) ?_
        refine arn (((k + 1) : Nat) : Int) rfl .no (.u rfl) (.u rfl) rfl (fun _ => by omega) (fun _ => wrap_i64 (by omega) (by omega)) ?_
        refine asg rfl .no (.u rfl) ?_
        refine .nil ?_
        refine We.lpo (k + 1, v34, L34) ?_ ?_ ?_ ?_ ?_
        · exact (ESub.cons rfl rfl (ESub.cons rfl (by first | rfl | exact evi (by omega)) (ESub.cons rfl rfl (ESub.cons rfl rfl ESub.nil))))
        · exact (MSub.cons .here rfl MSub.nil)
        · first | omega | (dsimp only; omega)
        · exact hGl1
        · refine ⟨?_, ?_⟩
          · (try dsimp only) <;> (first | omega | rfl | assumption | (simp; done))
          · (try dsimp only) <;> (rw [eL34, eM, yl_snoc, padF, ek2, if_neg (by omega)]; exact congrArg (fun z => yl k (padF key b) ++ [z]) BitVec.zero_xor)
    · have c4k := c4
      try simp only [decide_eq_true_eq, decide_eq_false_iff_not, Int.not_lt, Int.not_le, gt_iff_lt, ge_iff_le, Bool.or_eq_true, Bool.and_eq_true, Bool.or_eq_false_iff, Bool.not_eq_true', Bool.not_eq_false', Int.toNat_natCast, bne_iff_ne, beq_iff_eq, bne_eq_false_iff_eq, beq_eq_false_iff_ne, ne_eq] at c4
      refine .exit ?_
      refine .xcode ?_
      refine .xlp ?_
      refine .xblk ?_
      refine .code ?_
      refine .seq ?_
      refine Wk.rg [0, 1] rfl rfl ?_
      refine mv rfl .no (.u rfl) ?_
      refine asg rfl .no (.u rfl) ?_
      refine .nil ?_
      refine .code ?_
      refine .ret ?_
      refine We.fin Tryd.results58 (.tmp rfl .nil) (MSub.cons .here rfl MSub.nil) ?_
      obtain rfl : k = 64 := by omega
      exact ⟨M, eM, rfl⟩

theorem rmacSum_ok (key : List Y) (hk : Sh) (xs : List Y) (hx : Sh) (G : PM) (hsk : SlR G 1 encY hk key) (hs : SlR G 1 encY hx xs) (hR : RdNP G 0 0 (wa 64 kW)) (hlk : key.length ≤ 1000) (hl : xs.length ≤ 900000000000) : Ct Tryd.prog 37 ([hk.val key.length, hx.val xs.length] : List Value).toArray G [] (fun _ μ' u => μ' = [] ∧ u = .agg (ba 32 (macL key xs)).toArray) := by
  refine Ct.of Tryd.func37 rfl Tryd.ntmps37 rfl fun w0 hs0 => ?_
  refine .seq ?_
  refine Wk.rg [0] rfl rfl ?_
  refine al rfl Fx.zr42 ?_; intro b4
  refine .nil ?_
  refine .code ?_
  refine .seq ?_
  refine Wk.rg [0, 1, 2] rfl rfl ?_
  refine mv rfl .no (.u rfl) ?_
  refine kc rfl Fx.go58 (Eva.cons (.u rfl) (Eva.cons (.u rfl) Eva.nil)) (Ct.rowc (crossed_ok key hk 54#8 _ hsk hR (by omega))) ?_
  rintro v9 G9 μ9 hG9 ⟨L9, ov9, eL9, rfl⟩
  have hsk := hsk.mono hG9
  have hs := hs.mono hG9
  have hR := hR.mono hG9
  refine asg rfl .no (.u rfl) ?_
  refine .nil ?_
  have lL9 : L9.length = 64 := by rw [eL9, yl_len]
  refine .code ?_
  refine .seq ?_
  refine Wk.rg [0, 1, 2, 3] rfl rfl ?_
  refine mv rfl .no (.u rfl) ?_
  refine mv rfl .no (.u rfl) ?_
  refine apY rfl Fx.se27 Fx.zv5 (.u rfl) (.u rfl) .here hs.sc (by (try simp only [List.length_append, List.length_cons, List.length_nil, yl_len]); omega) ?_
  intro v12 L12 ov12 eL12
  have lL12 : L12.length = L9.length + xs.length := by rw [eL12, List.length_append]
  refine asg rfl .no (.u rfl) ?_
  refine .nil ?_
  refine .code ?_
  refine .seq ?_
  refine wk_fb .here (by first | (intro b hb; cases hb; done) | simp [keys, Res.keys]) ?_; intro GfR9 hR9 hleR9 evR9 hsR9; subst evR9
  have hsk := hsk.mono hleR9
  have hs := hs.mono hleR9
  have hR := hR.mono hleR9
  refine Wk.rg [0, 1, 2, 3] rfl rfl ?_
  refine mv rfl .no (.u rfl) ?_
  refine kv rfl .no Fx.go59 (Eva.cons (.u rfl) Eva.nil) (fun _ => rSum_ok L12 _ _ hsR9 hR (by omega)) ?_
  refine al rfl Fx.zr42 ?_; intro b6
  refine sw rfl (.u rfl) (.u rfl) rfl Fx.sz42 .here (by first | exact (ba_len _ _).trans (ba_len _ _).symm | exact (wa_len _ _).trans (wa_len _ _).symm | exact ba_len _ _ | exact wa_len _ _ | rfl | (simp only [wa_len, ba_len, List.length_append, List.length_cons, List.length_nil])) (by first | exact ba_one _ _ | exact wa_one _ _ | exact one_V _ | decide | exact one_app (wa_one _ _) (by simp [Value.oneCell'])) ?_
  refine .nil ?_
  refine .code ?_
  refine .seq ?_
  refine Wk.rg [0, 1, 2] rfl rfl ?_
  refine mv rfl .no (.u rfl) ?_
  refine kc rfl Fx.go58 (Eva.cons (.u rfl) (Eva.cons (.u rfl) Eva.nil)) (Ct.rowc (crossed_ok key hk 92#8 _ hsk hR (by omega))) ?_
  rintro v16 G16 μ16 hG16 ⟨L16, ov16, eL16, rfl⟩
  have hsk := hsk.mono hG16
  have hs := hs.mono hG16
  have hR := hR.mono hG16
  have hsR9 := hsR9.mono hG16
  refine asg rfl .no (.u rfl) ?_
  refine .nil ?_
  have lL16 : L16.length = 64 := by rw [eL16, yl_len]
  refine .code ?_
  refine .seq ?_
  refine Wk.rg [0, 1, 2, 3] rfl rfl ?_
  refine mv rfl .no (.u rfl) ?_
  refine sa0 rfl .no Fx.ar42 (.u rfl) ?_
  refine apY rfl Fx.se27 Fx.zv5 (.u rfl) (.u rfl) .here (Sc.arr (.there .here)) (by (try simp only [List.length_append, List.length_cons, List.length_nil, yl_len]); omega) ?_
  intro v19 L19 ov19 eL19
  have lL19 : L19.length = L16.length + 32 := by rw [eL19, List.length_append]; first | rfl | simp [yl_len]
  refine asg rfl .no (.u rfl) ?_
  refine .nil ?_
  refine .code ?_
  refine .seq ?_
  refine wk_fb .here (by first | (intro b hb; cases hb; done) | simp [keys, Res.keys]) ?_; intro GfR16 hR16 hleR16 evR16 hsR16; subst evR16
  have hsk := hsk.mono hleR16
  have hs := hs.mono hleR16
  have hR := hR.mono hleR16
  have hsR9 := hsR9.mono hleR16
  refine Wk.rg [0, 1, 2] rfl rfl ?_
  refine mv rfl .no (.u rfl) ?_
  refine kv rfl .no Fx.go59 (Eva.cons (.u rfl) Eva.nil) (fun _ => rSum_ok L19 _ _ hsR16 hR (by omega)) ?_
  refine sw rfl (.u rfl) (.u rfl) rfl Fx.sz42 (.there .here) (by first | exact (ba_len _ _).trans (ba_len _ _).symm | exact (wa_len _ _).trans (wa_len _ _).symm | exact ba_len _ _ | exact wa_len _ _ | rfl | (simp only [wa_len, ba_len, List.length_append, List.length_cons, List.length_nil])) (by first | exact ba_one _ _ | exact wa_one _ _ | exact one_V _ | decide | exact one_app (wa_one _ _) (by simp [Value.oneCell'])) ?_
  refine .nil ?_
  refine .code ?_
  refine .ret ?_
  refine We.fin0 Tryd.results37 (.cell rfl (fun w hw => run_loadVarN Fx.ag42 (RdN.own .here) ((by first | exact (ba_len _ _).trans (ba_len _ _).symm | exact (wa_len _ _).trans (wa_len _ _).symm | exact ba_len _ _ | exact wa_len _ _ | rfl | (simp only [wa_len, ba_len, List.length_append, List.length_cons, List.length_nil]))) hw) .nil) ?_
  exact ⟨rfl, by rw [eL19, eL16, eL12, eL9]; rfl⟩

theorem rTag_ok (enc mac nonce : Nat → Y) (ad : List Y) (ha : Sh) (xs : List Y) (hx : Sh) (G : PM) (hsa : SlR G 1 encY ha ad) (hsx : SlR G 1 encY hx xs) (hR : RdNP G 0 0 (wa 64 kW)) (hla : ad.length ≤ 209715200000) (hl : xs.length ≤ 209715200000) : Ct Tryd.prog 19 ([.agg (ba 32 enc ++ ba 32 mac).toArray, .agg (ba 12 nonce).toArray, ha.val ad.length, hx.val xs.length] : List Value).toArray G [] (PR 5 (fun L => L = yl 16 (tagF mac nonce ad xs))) := by
  refine Ct.of Tryd.func19 rfl Tryd.ntmps19 rfl fun w0 hs0 => ?_
  refine .seq ?_
  refine Wk.rg [0, 1, 2] rfl rfl ?_
  refine bx rfl (.u rfl) rfl ?_; intro b4
  refine bx rfl (.u rfl) rfl ?_; intro b5
  refine asg rfl .no (.u rfl) ?_
  refine .nil ?_
  refine .code ?_
  refine .seq ?_
  refine Wk.rg [0, 1, 2, 3, 4] rfl rfl ?_
  refine mv rfl .no (.u rfl) ?_
  refine ln rfl .no Fx.sn27 (.u rfl) ?_
  refine ci rfl .no rfl Fx.cv3_43 (.u rfl) ?_
  refine kc rfl Fx.go36 (Eva.cons (.u rfl) (Eva.cons (.u rfl) Eva.nil)) (Ct.rowc (rFix_ok _ 8 _ (by decide))) ?_
  rintro v14 G14 μ14 hG14 ⟨L14, ov14, eL14, rfl⟩
  have hsa := hsa.mono hG14
  have hsx := hsx.mono hG14
  have hR := hR.mono hG14
  refine asg rfl .no (.u rfl) ?_
  refine .nil ?_
  have lL14 : L14.length = 8 := by rw [eL14]; exact fix_len _ 8
  refine .code ?_
  refine .seq ?_
  refine Wk.rg [0, 1, 2, 3] rfl rfl ?_
  refine mv rfl .no (.u rfl) ?_
  refine mv rfl .no (.u rfl) ?_
  refine apY rfl Fx.se27 Fx.zv5 (.u rfl) (.u rfl) .here hsa.sc (by (try simp only [List.length_append, List.length_cons, List.length_nil, yl_len]); omega) ?_
  intro v17 L17 ov17 eL17
  have lL17 : L17.length = L14.length + ad.length := by rw [eL17, List.length_append]
  refine asg rfl .no (.u rfl) ?_
  refine .nil ?_
  refine .code ?_
  refine .seq ?_
  refine Wk.rg [0, 1, 2, 3] rfl rfl ?_
  refine mv rfl .no (.u rfl) ?_
  refine sa0 rfl .no Fx.ar26 (.u rfl) ?_
  refine apY rfl Fx.se27 Fx.zv5 (.u rfl) (.u rfl) .here (Sc.arr (.there .here)) (by (try simp only [List.length_append, List.length_cons, List.length_nil, yl_len]); omega) ?_
  intro v20 L20 ov20 eL20
  have lL20 : L20.length = L17.length + 12 := by rw [eL20, List.length_append]; first | rfl | simp [yl_len]
  refine asg rfl .no (.u rfl) ?_
  refine .nil ?_
  refine .code ?_
  refine .seq ?_
  refine Wk.rg [0, 1, 2, 3] rfl rfl ?_
  refine mv rfl .no (.u rfl) ?_
  refine mv rfl .no (.u rfl) ?_
  refine apY rfl Fx.se27 Fx.zv5 (.u rfl) (.u rfl) .here hsx.sc (by (try simp only [List.length_append, List.length_cons, List.length_nil, yl_len]); omega) ?_
  intro v23 L23 ov23 eL23
  have lL23 : L23.length = L20.length + xs.length := by rw [eL23, List.length_append]
  refine asg rfl .no (.u rfl) ?_
  refine .nil ?_
  refine .code ?_
  refine .seq ?_
  refine wk_fz (.there (.there .here)) (by intro b hb; cases hb) ?_; intro Gfb4 hleb4 hbb4
  have hsa := hsa.mono hleb4
  have hsx := hsx.mono hleb4
  have hR := hR.mono hleb4
  refine wk_fb .here (by first | (intro b hb; cases hb; done) | simp [keys, Res.keys]) ?_; intro GfR14 hR14 hleR14 evR14 hsR14; subst evR14
  have hsa := hsa.mono hleR14
  have hsx := hsx.mono hleR14
  have hR := hR.mono hleR14
  have hbb4 := hbb4.mono hleR14
  refine Wk.rg [0, 1, 2, 3, 4, 5] rfl rfl ?_
  refine fa rfl .no Fx.fo24_1 (.u rfl) ?_
  refine kA rfl .no Fx.ar22 (.u rfl) hbb4 (by first | exact ba_all | exact app_l | exact app_r) ?_; intro h25 L25 eL25 lL25 hs25
  refine mv rfl .no (.u rfl) ?_
  refine kv rfl .no Fx.go37 (Eva.cons (.u rfl) (Eva.cons (.u rfl) Eva.nil)) (fun _ => rmacSum_ok L25 h25 L23 _ _ hs25 hsR14 hR (by omega) (by omega)) ?_
  refine al rfl Fx.zr42 ?_; intro b10
  refine sw rfl (.u rfl) (.u rfl) rfl Fx.sz42 .here (by first | exact (ba_len _ _).trans (ba_len _ _).symm | exact (wa_len _ _).trans (wa_len _ _).symm | exact ba_len _ _ | exact wa_len _ _ | rfl | (simp only [wa_len, ba_len, List.length_append, List.length_cons, List.length_nil])) (by first | exact ba_one _ _ | exact wa_one _ _ | exact one_V _ | decide | exact one_app (wa_one _ _) (by simp [Value.oneCell'])) ?_
  refine .nil ?_
  refine .code ?_
  refine .seq ?_
  refine Wk.rg [0, 1, 2, 3] rfl rfl ?_
  refine b0B rfl Fx.se27 ?_; intro b28
  refine sah rfl .no Fx.ar42 (.u rfl) (.u rfl) (fun _ => by first | decide | omega) (fun _ => by first | decide | omega) ?_
  skip
  refine apY0 rfl Fx.se27 Fx.zv5 (.u rfl) (.u rfl) .here (Sc.arrh (.there .here) (by decide)) (by (try simp only [List.length_append, List.length_cons, List.length_nil, yl_len]); omega) ?_
  intro v30 L30 _ ov30 eL30
  have lL30 : L30.length = 16 := by rw [eL30]; first | rfl | simp [yl_len]
  refine asg rfl .no (.u rfl) ?_
  refine .nil ?_
  refine .code ?_
  refine .ret ?_
  refine We.fin Tryd.results19 (.tmp rfl .nil) (MSub.cons .here rfl MSub.nil) ?_
  exact ⟨L30, by rw [eL30, eL23, eL20, eL17, eL14, eL25]; rfl, rfl⟩

theorem rtag_row (enc mac nonce : Nat → Y) (ad : List Y) (ha : Sh) (xs : List Y) (v : Value) (G : PM) (hsa : SlR G 1 encY ha ad) (hR : RdNP G 0 0 (wa 64 kW)) (hla : ad.length ≤ 209715200000) (hl : xs.length ≤ 209715200000) : Ct Tryd.prog 19 ([.agg (ba 32 enc ++ ba 32 mac).toArray, .agg (ba 12 nonce).toArray, ha.val ad.length, v] : List Value).toArray G [rB v 5 xs] (fun _ μ' u => ∃ ν, μ' = rB v 5 xs :: ν ∧ ∃ L, L = yl 16 (tagF mac nonce ad xs) ∧ ν = [rB u 5 L]) :=
  Ct.lendB (fun hx G2 hle hv hs => by subst hv; exact rTag_ok enc mac nonce ad ha xs hx G2 (hsa.mono hle) hs (hR.mono hle) hla hl)
theorem rCross_row (key nonce : Nat → Y) (count : W) (h : Sh) (xs : List Y) (G : PM) (hs : SlR G 1 encY h xs) (hl : xs.length ≤ 140737488351232) : Ct Tryd.prog 35 ([.agg (ba 32 key).toArray, .agg (ba 12 nonce).toArray, U count, h.val xs.length] : List Value).toArray G [] (PR 5 (fun L => L = crossL key nonce count xs)) := by
  refine Ct.of Tryd.func35 rfl Tryd.ntmps35 rfl fun w0 hs0 => ?_
  refine .seq ?_
  refine Wk.rg [0, 1, 2] rfl rfl ?_
  refine bx rfl (.u rfl) rfl ?_; intro b4
  refine bx rfl (.u rfl) rfl ?_; intro b5
  refine asg rfl .no (.u rfl) ?_
  refine .nil ?_
  refine .code ?_
  refine .seq ?_
  refine Wk.rg [0] rfl rfl ?_
  refine asg rfl .no (.u rfl) ?_
  refine .nil ?_
  refine .code ?_
  refine .seq ?_
  refine Wk.rg [0] rfl rfl ?_
  refine al rfl Fx.zr85 ?_; intro b10
  refine .nil ?_
  refine .code ?_
  refine .seq ?_
  refine .seq ?_
  refine Wk.rg [0] rfl rfl ?_
  refine asg rfl .no (.u rfl) ?_
  refine .nil ?_
  refine .code ?_
  refine .block ?_
  refine wk_nilRow 5 1 ?_
  refine Wk.lop (α := Nat × Value) (fun gh => [(9, true, gh.2), (11, true, .int .i64 (gh.1 : Int))]) (fun gh => [.row gh.2 5 1 gh.1 (ba gh.1 (crF key nonce count xs)), .blk b10 (cl (ba 64 (nowF key nonce count gh.1)) 85)])
    (fun gh Gl => gh.1 ≤ xs.length) (fun gh => xs.length - gh.1) (0, .slice none 0 0) [(2, true, _), (3, true, _), (4, true, _), (5, true, _), (10, true, _)] [.blk b5 _, .blk b4 _]
    (ESub.cons rfl rfl (ESub.cons rfl rfl (ESub.cons rfl rfl (ESub.cons rfl rfl (ESub.cons rfl rfl (ESub.cons rfl rfl (ESub.cons rfl rfl ESub.nil)))))))
    (MSub.cons .here rfl (MSub.cons .here rfl (MSub.cons .here rfl (MSub.cons .here rfl MSub.nil)))) ?_ ?_
  · show 0 ≤ xs.length; omega
  intro gh N0 Gl0 hN0 hGl0 hF0
  obtain ⟨k, v⟩ := gh; dsimp only at hF0 hN0 ⊢
  have hk : k ≤ xs.length := hF0
  refine .seq ?_
  refine .seq ?_
  refine Wk.rg [0, 1, 2, 3] rfl rfl ?_
  refine mv rfl .no (.u rfl) ?_
  refine mv rfl .no (.u rfl) ?_
  refine ln rfl .no Fx.sn27 (.u rfl) ?_
  refine cp rfl .no (.u rfl) (.u rfl) rfl ?_
  refine .nil ?_
  refine .code ?_
  refine .cond rfl (fun c1 => ?_) (fun c1 => ?_)
  · have c1k := c1
    try simp only [decide_eq_true_eq, decide_eq_false_iff_not, Int.not_lt, Int.not_le, gt_iff_lt, ge_iff_le, Bool.or_eq_true, Bool.and_eq_true, Bool.or_eq_false_iff, Bool.not_eq_true', Bool.not_eq_false', Int.toNat_natCast] at c1
    refine .skip ?_
    refine .code ?_
    refine .seq ?_
    refine .block ?_
    refine .seq ?_
    refine .seq ?_
    refine Wk.rg [0, 1, 2] rfl rfl ?_
    refine mv rfl .no (.u rfl) ?_
    refine rm rfl .no (.u rfl) (.u rfl) (fun _ => by decide) ?_
    refine cp rfl .no (.u rfl) (.u rfl) rfl ?_
    refine .nil ?_
    refine .code ?_
    refine .cond rfl (fun c2 => ?_) (fun c2 => ?_)
    · have c2k := c2
      try simp only [decide_eq_true_eq, decide_eq_false_iff_not, Int.not_lt, Int.not_le, gt_iff_lt, ge_iff_le, Bool.or_eq_true, Bool.and_eq_true, Bool.or_eq_false_iff, Bool.not_eq_true', Bool.not_eq_false', Int.toNat_natCast] at c2
      refine Wk.rg [0, 1, 2, 3, 4, 5, 6, 7, 8] rfl rfl ?_
      refine lA rfl .no Fx.ag22 (.u rfl) (fun _ => RdN.own (.there (.there (.there .here)))) (fun _ => rfl) ?_
      refine lA rfl .no Fx.ag25 (.u rfl) (fun _ => RdN.own (.there (.there .here))) (fun _ => rfl) ?_
      refine mv rfl .no (.u rfl) ?_
      refine mv rfl .no (.u rfl) ?_
      refine qu rfl .no (.u rfl) (.u rfl) (fun _ => by decide) ?_
      refine ci rfl .no rfl Fx.cv3_69 (.u rfl) ?_
      refine bw (k := .u32) rfl .no rfl (.u rfl) (.u rfl) rfl ?_
      refine kv rfl .no Fx.go57 (Eva.cons (.u rfl) (Eva.cons (.u rfl) (Eva.cons (.u rfl) Eva.nil))) (fun _ => rBlock_ok _ _ _ _) ?_
      refine sw rfl (.u rfl) (.u rfl) rfl Fx.sz85 (.there .here) ((ba_len _ _).trans (ba_len _ _).symm) (ba_one _ _) ?_
      refine .nil ?_
      simp only [qd64 (x := (k : Int)) k rfl (by omega), BitVec.ofInt_natCast]
      refine .code ?_
      refine Wk.draw (mc := ⟨false, false⟩) [0, 1, 2, 3, 4, 5, 6, 7, 8, 9, 10, 11, 12] Fx.mix (by kernel_rfl) ?_
      refine mv rfl .no (.u rfl) ?_
      refine mv rfl .no (.u rfl) ?_
      refine mv rfl .no (.u rfl) ?_
      refine ih rfl .no Fx.se27 (.u rfl) (.u rfl) (fun _ => by omega) (fun _ => by omega) (fun _ => hs.nn (k := k) (by omega)) ?_
      refine ld rfl .no Fx.ag5 (.u rfl) (fun _ => ((hs.mono hGl0).yat k (by omega) (by omega)).rd) ?_
      refine mv rfl .no (.u rfl) ?_
      refine rm rfl .no (.u rfl) (.u rfl) (fun _ => by decide) ?_
      refine iA rfl .no Fx.ar85 (.u rfl) (.u rfl) (fun _ => by rw [tm64 k rfl]; omega) (fun _ => by rw [tm64 k rfl]; omega) ?_
      refine ld rfl .no Fx.ag5 (.u rfl) (fun _ => Rd.own .here (ba_at1 (k % 64) (by rw [tm64 k rfl]; omega) (by omega))) ?_
      refine bw (k := .u8) rfl .no rfl (.u rfl) (.u rfl) rfl ?_
      refine Go.Tan.b1 rfl Fx.se27 Fx.zv5 (.u rfl) rfl rfl (by decide) ?_; intro b39
      refine ap rfl Fx.se27 Fx.zv5 rfl (.u rfl) (.u rfl) (.there (.there .here)) (rfl) (fun _ => ⟨_, _, rfl, RdN.own .here⟩) (fun u hu => by rw [List.mem_singleton.1 hu]; rfl) (by omega) (by unfold maxLen; omega) ?_; intro v40
      refine asg rfl .no (.u rfl) ?_
      refine .nil ?_
      refine .blk ?_
      refine .code ?_
      refine Wk.rg [0, 1, 2] rfl rfl ?_
      refine mv rfl .no (.u rfl) ?_
      refine ar rfl .no (.u rfl) (.u rfl) rfl (fun _ => wrap_i64 (by omega) (by omega)) ?_
      refine asg rfl .no (.u rfl) ?_
      refine .nil ?_
      refine We.lpo (k + 1, v40) ?_ ?_ ?_ ?_ ?_
      · exact (ESub.cons rfl rfl (ESub.cons rfl rfl (ESub.cons rfl rfl (ESub.cons rfl rfl (ESub.cons rfl rfl (ESub.cons rfl rfl (ESub.cons rfl rfl ESub.nil)))))))
      · exact (MSub.cons .here (cr_row rfl) (MSub.cons (.there .here) rfl (MSub.cons (.there .here) rfl (MSub.cons (.there .here) rfl MSub.nil))))
      · first | omega | (dsimp only; omega)
      · exact hGl0
      · show k + 1 ≤ xs.length; omega
    · have c2k := c2
      try simp only [decide_eq_true_eq, decide_eq_false_iff_not, Int.not_lt, Int.not_le, gt_iff_lt, ge_iff_le, Bool.or_eq_true, Bool.and_eq_true, Bool.or_eq_false_iff, Bool.not_eq_true', Bool.not_eq_false', Int.toNat_natCast] at c2
      refine .skip ?_
      refine .code ?_
      refine Wk.draw (mc := ⟨false, false⟩) [0, 1, 2, 3, 4, 5, 6, 7, 8, 9, 10, 11, 12] Fx.mix (by kernel_rfl) ?_
      refine mv rfl .no (.u rfl) ?_
      refine mv rfl .no (.u rfl) ?_
      refine mv rfl .no (.u rfl) ?_
      refine ih rfl .no Fx.se27 (.u rfl) (.u rfl) (fun _ => by omega) (fun _ => by omega) (fun _ => hs.nn (k := k) (by omega)) ?_
      refine ld rfl .no Fx.ag5 (.u rfl) (fun _ => ((hs.mono hGl0).yat k (by omega) (by omega)).rd) ?_
      refine mv rfl .no (.u rfl) ?_
      refine rm rfl .no (.u rfl) (.u rfl) (fun _ => by decide) ?_
      refine iA rfl .no Fx.ar85 (.u rfl) (.u rfl) (fun _ => by rw [tm64 k rfl]; omega) (fun _ => by rw [tm64 k rfl]; omega) ?_
      refine ld rfl .no Fx.ag5 (.u rfl) (fun _ => Rd.own (.there .here) (ba_at1 (k % 64) (by rw [tm64 k rfl]; omega) (by omega))) ?_
      refine bw (k := .u8) rfl .no rfl (.u rfl) (.u rfl) rfl ?_
      refine Go.Tan.b1 rfl Fx.se27 Fx.zv5 (.u rfl) rfl rfl (by decide) ?_; intro b39
      refine ap rfl Fx.se27 Fx.zv5 rfl (.u rfl) (.u rfl) (.there .here) (rfl) (fun _ => ⟨_, _, rfl, RdN.own .here⟩) (fun u hu => by rw [List.mem_singleton.1 hu]; rfl) (by omega) (by unfold maxLen; omega) ?_; intro v40
      refine asg rfl .no (.u rfl) ?_
      refine .nil ?_
      refine .blk ?_
      refine .code ?_
      refine Wk.rg [0, 1, 2] rfl rfl ?_
      refine mv rfl .no (.u rfl) ?_
      refine ar rfl .no (.u rfl) (.u rfl) rfl (fun _ => wrap_i64 (by omega) (by omega)) ?_
      refine asg rfl .no (.u rfl) ?_
      refine .nil ?_
      refine We.lpo (k + 1, v40) ?_ ?_ ?_ ?_ ?_
      · exact (ESub.cons rfl rfl (ESub.cons rfl rfl (ESub.cons rfl rfl (ESub.cons rfl rfl (ESub.cons rfl rfl (ESub.cons rfl rfl (ESub.cons rfl rfl ESub.nil)))))))
      · exact (MSub.cons .here (cr_row (nowF_step c2k)) (MSub.cons (.there .here) (by rw [nowF_step c2k]; rfl) (MSub.cons (.there .here) rfl (MSub.cons (.there .here) rfl MSub.nil))))
      · first | omega | (dsimp only; omega)
      · exact hGl0
      · show k + 1 ≤ xs.length; omega
  · have c1k := c1
    try simp only [decide_eq_true_eq, decide_eq_false_iff_not, Int.not_lt, Int.not_le, gt_iff_lt, ge_iff_le, Bool.or_eq_true, Bool.and_eq_true, Bool.or_eq_false_iff, Bool.not_eq_true', Bool.not_eq_false', Int.toNat_natCast] at c1
    refine .exit ?_
    refine .xcode ?_
    refine .xlp ?_
    refine .xblk ?_
    refine .code ?_
    refine .seq ?_
    refine Wk.rg [0, 1] rfl rfl ?_
    refine mv rfl .no (.u rfl) ?_
    refine asg rfl .no (.u rfl) ?_
    refine .nil ?_
    refine .code ?_
    refine .ret ?_
    obtain rfl : k = xs.length := by omega
    refine We.fin Tryd.results35 (.tmp rfl .nil) (MSub.cons .here rfl MSub.nil) ?_
    exact ⟨crossL key nonce count xs, rfl, by simp only [rB, crossL, yl_len, yl_V]; rfl⟩

theorem rOpen_ok (enc mac nonce : Nat → Y) (ad : List Y) (ha : Sh) (xs : List Y) (hx : Sh) (G : PM) (hsa : SlR G 1 encY ha ad) (hsx : SlR G 1 encY hx xs) (hR : RdNP G 0 0 (wa 64 kW)) (hla : ad.length ≤ 209715200000) (hl : xs.length ≤ 209715200000) : Ct Tryd.prog 21 ([.agg (ba 32 enc ++ ba 32 mac).toArray, .agg (ba 12 nonce).toArray, ha.val ad.length, hx.val xs.length] : List Value).toArray G [] (fun _ μ' u => ∃ v L e, OpenR (openL enc mac nonce ad xs) L e ∧ μ' = [rB v 5 L] ∧ u = .tuple #[v, .int .i64 e]) := by
  refine Ct.of Tryd.func21 rfl Tryd.ntmps21 rfl fun w0 hs0 => ?_
  refine .seq ?_
  refine Wk.rg [0, 1, 2, 3] rfl rfl ?_
  refine bx rfl (.u rfl) rfl ?_; intro b4
  refine bx rfl (.u rfl) rfl ?_; intro b5
  refine asg rfl .no (.u rfl) ?_
  refine asg rfl .no (.u rfl) ?_
  refine .nil ?_
  refine .code ?_
  refine .seq ?_
  refine Wk.rg [0, 1, 2, 3] rfl rfl ?_
  refine mv rfl .no (.u rfl) ?_
  refine ln rfl .no Fx.sn27 (.u rfl) ?_
  refine ar rfl .no (.u rfl) (.u rfl) rfl (fun _ => wrap_i64 (by omega) (by omega)) ?_
  refine asg rfl .no (.u rfl) ?_
  refine .nil ?_
  refine .code ?_
  refine .seq ?_
  refine .seq ?_
  by_cases h16 : xs.length < 16
  · refine Wk.draw (mc := ⟨false, false⟩) [0, 1, 2, 3, 4, 5, 6, 7, 8, 11, 12, 13, 14, 9, 10, 15, 16] Fx.mix (by kernel_rfl) ?_
    refine mv rfl .no (.u rfl) ?_
    refine cp rfl .no (.u rfl) (.u rfl) rfl ?_
    refine wo_b true (decide_eq_true (by omega)) ?_
    refine mv rfl .no (.u rfl) ?_
    refine skr (.bool false) rfl rfl (Gd.f (b := true) rfl rfl) ?_
    refine skr (.bool false) rfl rfl (Gd.f (b := true) rfl rfl) ?_
    refine skp (.bool false) rfl rfl (Gd.f (b := true) rfl rfl) ?_
    refine skp (.bool false) rfl rfl (Gd.f (b := true) rfl rfl) ?_
    refine skp (.bool false) rfl rfl (Gd.f (b := true) rfl rfl) ?_
    refine skp (.bool false) rfl rfl (Gd.f (b := true) rfl rfl) ?_
    refine skp (.bool false) rfl rfl (Gd.f (b := true) rfl rfl) ?_
    refine skp (.bool false) rfl rfl (Gd.f (b := true) rfl rfl) ?_
    refine skp (.bool false) rfl rfl (Gd.f (b := true) rfl rfl) ?_
    refine skr (.bool false) rfl rfl (Gd.f (b := true) rfl rfl) ?_
    refine skc (.bool false) rfl rfl (Gd.f (b := true) rfl rfl) ?_
    refine skr (.bool false) rfl rfl (Gd.f (b := true) rfl rfl) ?_
    refine skp (.bool false) rfl rfl (Gd.f (b := true) rfl rfl) ?_
    refine pkO rfl .no (.u rfl) (.s rfl) ?_
    refine .nil ?_
    refine .code ?_
    refine .cond rfl (fun c1 => ?_) (fun c1 => ?_)
    · have c1k := c1
      try simp only [decide_eq_true_eq, decide_eq_false_iff_not, Int.not_lt, Int.not_le, gt_iff_lt, ge_iff_le, Bool.or_eq_true, Bool.and_eq_true, Bool.or_eq_false_iff, Bool.not_eq_true', Bool.not_eq_false', Int.toNat_natCast, bne_iff_ne, beq_iff_eq, bne_eq_false_iff_eq, beq_eq_false_iff_ne, ne_eq] at c1
      refine .seq ?_
      refine Wk.rg [0, 1] rfl rfl ?_
      refine asg rfl .no (.u rfl) ?_
      refine asg rfl .no (.u rfl) ?_
      refine .nil ?_
      refine .code ?_
      refine .ret ?_
      refine we_nilB 5 ?_
      refine We.fin Tryd.results21 (.tmp rfl (.tmp rfl .nil)) (MSub.cons .here rfl MSub.nil) ?_
      rw [open_short h16]; exact ⟨_, [], 60, .inr ⟨rfl, rfl, rfl⟩, rfl, rfl⟩
    · have c1k := c1
      exact absurd c1 (by simp)
  · refine Wk.draw (mc := ⟨false, false⟩) [0, 1, 2, 3, 4, 5, 6, 7, 8, 11, 12, 13, 14, 9, 10, 15, 16] Fx.mix (by kernel_rfl) ?_
    refine mv rfl .no (.u rfl) ?_
    refine cp rfl .no (.u rfl) (.u rfl) rfl ?_
    refine wo_b false (decide_eq_false (by omega)) ?_
    refine mv rfl .no (.u rfl) ?_
    refine lA rfl (Gd.f (b := false) rfl rfl) Fx.ag24 (.u rfl) (fun _ => RdN.own (.there .here)) (fun _ => (by first | exact (ba_len _ _).trans (ba_len _ _).symm | exact (wa_len _ _).trans (wa_len _ _).symm | exact ba_len _ _ | exact wa_len _ _ | rfl | (simp only [wa_len, ba_len, List.length_append, List.length_cons, List.length_nil]))) ?_
    refine lA rfl (Gd.f (b := false) rfl rfl) Fx.ag26 (.u rfl) (fun _ => RdN.own .here) (fun _ => (by first | exact (ba_len _ _).trans (ba_len _ _).symm | exact (wa_len _ _).trans (wa_len _ _).symm | exact ba_len _ _ | exact wa_len _ _ | rfl | (simp only [wa_len, ba_len, List.length_append, List.length_cons, List.length_nil]))) ?_
    refine mv rfl (Gd.f (b := false) rfl rfl) (.u rfl) ?_
    refine mv rfl (Gd.f (b := false) rfl rfl) (.u rfl) ?_
    refine mv rfl (Gd.f (b := false) rfl rfl) (.u rfl) ?_
    refine kE ((xs.length - 16)) rfl (Gd.f (b := false) rfl rfl) Fx.se27 hsx (.u rfl) (.u rfl) (fun _ => by omega) (fun _ => by omega) ?_
    intro h22 L22 eL22 lL22 hs22
    have lL22 := lL22 rfl
    refine mv rfl (Gd.f (b := false) rfl rfl) (.u rfl) ?_
    refine mv rfl (Gd.f (b := false) rfl rfl) (.u rfl) ?_
    refine kD ((xs.length - 16)) rfl (Gd.f (b := false) rfl rfl) Fx.se27 hsx (.u rfl) (.u rfl) (fun _ => by omega) (fun _ => by omega) ?_
    intro h27 L27 eL27 lL27 hs27
    have lL27 := lL27 rfl
    refine sB rfl (Gd.f (b := false) rfl rfl) Fx.bs27_9 (.u rfl) (fun _ => hs27.sc) ?_
    refine kcg rfl (Gd.f (b := false) rfl rfl) Fx.go19 (Eva.cons (.u rfl) (Eva.cons (.u rfl) (Eva.cons (.u rfl) (Eva.cons (.u rfl) Eva.nil)))) (Ct.frzB (rTag_ok enc mac nonce ad ha L22 h22 _ hsa hs22 hR hla (by omega))) ?_
    rintro _ G23 μ23 hG23 ⟨h23, L23, eL23, rfl, rfl, hs23⟩
    have hsa := hsa.mono hG23
    have hsx := hsx.mono hG23
    have hR := hR.mono hG23
    have hs22 := hs22.mono hG23
    have hs27 := hs27.mono hG23
    refine sB rfl (Gd.f (b := false) rfl rfl) Fx.bs27_9 (.u rfl) (fun _ => hs23.sc) ?_
    refine cbn rfl (Gd.f (b := false) rfl rfl) (.u rfl) (.u rfl) ?_
    refine pkO rfl .no (.u rfl) (.u rfl) ?_
    refine .nil ?_
    refine .code ?_
    refine .cond rfl (fun c2 => ?_) (fun c2 => ?_)
    · have c2k := c2
      try simp only [decide_eq_true_eq, decide_eq_false_iff_not, Int.not_lt, Int.not_le, gt_iff_lt, ge_iff_le, Bool.or_eq_true, Bool.and_eq_true, Bool.or_eq_false_iff, Bool.not_eq_true', Bool.not_eq_false', Int.toNat_natCast, bne_iff_ne, beq_iff_eq, bne_eq_false_iff_eq, beq_eq_false_iff_ne, ne_eq] at c2
      refine .seq ?_
      refine Wk.rg [0, 1] rfl rfl ?_
      refine asg rfl .no (.u rfl) ?_
      refine asg rfl .no (.u rfl) ?_
      refine .nil ?_
      refine .code ?_
      refine .ret ?_
      refine we_nilB 5 ?_
      refine We.fin Tryd.results21 (.tmp rfl (.tmp rfl .nil)) (MSub.cons .here rfl MSub.nil) ?_
      rw [open_bad (by omega) (by rw [← eL22, ← eL27, ← eL23]; simpa using c2)]; exact ⟨_, [], 60, .inr ⟨rfl, rfl, rfl⟩, rfl, rfl⟩
    · have c2k := c2
      try simp only [decide_eq_true_eq, decide_eq_false_iff_not, Int.not_lt, Int.not_le, gt_iff_lt, ge_iff_le, Bool.or_eq_true, Bool.and_eq_true, Bool.or_eq_false_iff, Bool.not_eq_true', Bool.not_eq_false', Int.toNat_natCast, bne_iff_ne, beq_iff_eq, bne_eq_false_iff_eq, beq_eq_false_iff_ne, ne_eq] at c2
      refine .skip ?_
      refine .code ?_
      refine .seq ?_
      refine Wk.draw (mc := ⟨false, false⟩) [0, 1, 2, 3, 4, 5, 6, 7, 8] Fx.mix (by kernel_rfl) ?_
      refine fz rfl .no Fx.fo24_0 (.u rfl) ?_
      refine lA rfl .no Fx.ag22 (.u rfl) (fun _ => RdN.part (n := 32) (cs' := ba 32 enc) (.there .here) (app_l)) (fun _ => (by first | exact (ba_len _ _).trans (ba_len _ _).symm | exact (wa_len _ _).trans (wa_len _ _).symm | exact ba_len _ _ | exact wa_len _ _ | rfl | (simp only [wa_len, ba_len, List.length_append, List.length_cons, List.length_nil]))) ?_
      refine lA rfl .no Fx.ag26 (.u rfl) (fun _ => RdN.own .here) (fun _ => (by first | exact (ba_len _ _).trans (ba_len _ _).symm | exact (wa_len _ _).trans (wa_len _ _).symm | exact ba_len _ _ | exact wa_len _ _ | rfl | (simp only [wa_len, ba_len, List.length_append, List.length_cons, List.length_nil]))) ?_
      refine mv rfl .no (.u rfl) ?_
      refine mv rfl .no (.u rfl) ?_
      refine kE ((xs.length - 16)) rfl .no Fx.se27 hsx (.u rfl) (.u rfl) (fun _ => by omega) (fun _ => by omega) ?_
      intro h36 L36 eL36 lL36 hs36
      have lL36 := lL36 rfl
      refine kc rfl Fx.go35 (Eva.cons (.u rfl) (Eva.cons (.u rfl) (Eva.cons (.u rfl) (Eva.cons (.u rfl) Eva.nil)))) (Ct.rowc (rCross_row enc nonce 1#32 h36 L36 _ hs36 (by omega))) ?_
      rintro v37 G37 μ37 hG37 ⟨L37, ov37, eL37, rfl⟩
      have hsa := hsa.mono hG37
      have hsx := hsx.mono hG37
      have hR := hR.mono hG37
      have hs22 := hs22.mono hG37
      have hs27 := hs27.mono hG37
      have hs23 := hs23.mono hG37
      have hs36 := hs36.mono hG37
      refine asg rfl .no (.u rfl) ?_
      refine asg rfl .no (.u rfl) ?_
      refine .nil ?_
      refine .code ?_
      refine .ret ?_
      refine We.fin Tryd.results21 (.tmp rfl (.tmp rfl .nil)) (MSub.cons .here rfl MSub.nil) ?_
      rw [open_good (by omega) (by rw [← eL22, ← eL27, ← eL23]; simpa using c2), ← eL36]; exact ⟨v37, L37, 0, .inl ⟨by rw [eL37], rfl⟩, rfl, rfl⟩

theorem rSeal_ok (enc mac nonce : Nat → Y) (ad : List Y) (ha : Sh) (xs : List Y) (hx : Sh) (G : PM) (hsa : SlR G 1 encY ha ad) (hsx : SlR G 1 encY hx xs) (hR : RdNP G 0 0 (wa 64 kW)) (hla : ad.length ≤ 209715200000) (hl : xs.length ≤ 209715200000) : Ct Tryd.prog 18 ([.agg (ba 32 enc ++ ba 32 mac).toArray, .agg (ba 12 nonce).toArray, ha.val ad.length, hx.val xs.length] : List Value).toArray G [] (PR 5 (fun L => L = sealL enc mac nonce ad xs)) := by
  refine Ct.of Tryd.func18 rfl Tryd.ntmps18 rfl fun w0 hs0 => ?_
  refine .seq ?_
  refine Wk.rg [0, 1, 2] rfl rfl ?_
  refine bx rfl (.u rfl) rfl ?_; intro b4
  refine bx rfl (.u rfl) rfl ?_; intro b5
  refine asg rfl .no (.u rfl) ?_
  refine .nil ?_
  refine .code ?_
  refine .seq ?_
  refine Wk.rg [0, 1, 2, 3, 4, 5] rfl rfl ?_
  refine fz rfl .no Fx.fo24_0 (.u rfl) ?_
  refine lA rfl .no Fx.ag22 (.u rfl) (fun _ => RdN.part (n := 32) (cs' := ba 32 enc) (.there .here) (app_l)) (fun _ => (by first | exact (ba_len _ _).trans (ba_len _ _).symm | exact (wa_len _ _).trans (wa_len _ _).symm | exact ba_len _ _ | exact wa_len _ _ | rfl | (simp only [wa_len, ba_len, List.length_append, List.length_cons, List.length_nil]))) ?_
  refine lA rfl .no Fx.ag26 (.u rfl) (fun _ => RdN.own .here) (fun _ => (by first | exact (ba_len _ _).trans (ba_len _ _).symm | exact (wa_len _ _).trans (wa_len _ _).symm | exact ba_len _ _ | exact wa_len _ _ | rfl | (simp only [wa_len, ba_len, List.length_append, List.length_cons, List.length_nil]))) ?_
  refine mv rfl .no (.u rfl) ?_
  refine kc rfl Fx.go35 (Eva.cons (.u rfl) (Eva.cons (.u rfl) (Eva.cons (.u rfl) (Eva.cons (.u rfl) Eva.nil)))) (Ct.rowc (rCross_row enc nonce 1#32 hx xs _ hsx (by omega))) ?_
  rintro v15 G15 μ15 hG15 ⟨L15, ov15, eL15, rfl⟩
  have hsa := hsa.mono hG15
  have hsx := hsx.mono hG15
  have hR := hR.mono hG15
  refine asg rfl .no (.u rfl) ?_
  refine .nil ?_
  refine .code ?_
  refine .seq ?_
  refine Wk.rg [0, 1, 2, 3, 4, 5] rfl rfl ?_
  have lL15 : L15.length = xs.length := by rw [eL15, cross_len]
  refine lA rfl .no Fx.ag24 (.u rfl) (fun _ => RdN.own (.there (.there .here))) (fun _ => (by first | exact (ba_len _ _).trans (ba_len _ _).symm | exact (wa_len _ _).trans (wa_len _ _).symm | exact ba_len _ _ | exact wa_len _ _ | rfl | (simp only [wa_len, ba_len, List.length_append, List.length_cons, List.length_nil]))) ?_
  refine lA rfl .no Fx.ag26 (.u rfl) (fun _ => RdN.own (.there .here)) (fun _ => (by first | exact (ba_len _ _).trans (ba_len _ _).symm | exact (wa_len _ _).trans (wa_len _ _).symm | exact ba_len _ _ | exact wa_len _ _ | rfl | (simp only [wa_len, ba_len, List.length_append, List.length_cons, List.length_nil]))) ?_
  refine mv rfl .no (.u rfl) ?_
  refine mv rfl .no (.u rfl) ?_
  refine ka rfl (.inr rfl) Fx.go19 (Eva.cons (.u rfl) (Eva.cons (.u rfl) (Eva.cons (.u rfl) (Eva.cons (.u rfl) Eva.nil)))) (mtk1 .here) (rtag_row enc mac nonce ad ha L15 _ _ hsa hR hla (by omega)) ?_
  rintro v20 G20 μ20 hG20 ⟨_, rfl, L20, eL20, rfl⟩
  have hsa := hsa.mono hG20
  have hsx := hsx.mono hG20
  have hR := hR.mono hG20
  refine asg rfl .no (.u rfl) ?_
  refine .nil ?_
  have lL20 : L20.length = 16 := by rw [eL20, yl_len]
  refine .code ?_
  refine .seq ?_
  refine wk_fb (.there .here) (by first | (intro b hb; cases hb; done) | simp [keys, Res.keys]) ?_; intro GfR20 hR20 hleR20 evR20 hsR20; subst evR20
  have hsa := hsa.mono hleR20
  have hsx := hsx.mono hleR20
  have hR := hR.mono hleR20
  refine Wk.rg [0, 1, 2, 3] rfl rfl ?_
  refine mv rfl .no (.u rfl) ?_
  refine mv rfl .no (.u rfl) ?_
  refine apY rfl Fx.se27 Fx.zv5 (.u rfl) (.u rfl) .here hsR20.sc (by (try simp only [List.length_append, List.length_cons, List.length_nil, yl_len]); omega) ?_
  intro v23 L23 ov23 eL23
  have lL23 : L23.length = L15.length + L20.length := by rw [eL23, List.length_append]
  refine asg rfl .no (.u rfl) ?_
  refine .nil ?_
  refine .code ?_
  refine .seq ?_
  refine Wk.rg [0, 1] rfl rfl ?_
  refine mv rfl .no (.u rfl) ?_
  refine asg rfl .no (.u rfl) ?_
  refine .nil ?_
  refine .code ?_
  refine .ret ?_
  refine We.fin Tryd.results18 (.tmp rfl .nil) (MSub.cons .here rfl MSub.nil) ?_
  exact ⟨L23, by rw [eL23, eL20, eL15]; rfl, rfl⟩

end Go.Proofs.YtoogjfldgeiapaaDoor
