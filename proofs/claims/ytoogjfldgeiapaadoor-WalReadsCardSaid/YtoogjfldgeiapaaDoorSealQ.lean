/- Contracts of functions, walked. -/
import Derived.Test.YtoogjfldgeiapaaDoorSealP
namespace Go.Proofs.YtoogjfldgeiapaaDoor
set_option linter.unusedSimpArgs false
set_option linter.unusedVariables false
open Go.Tan Go.RowKit

namespace Fx
theorem zr85 : zrL Tryd.prog 85 = some (ba 64 (fun _ => 0#8)) := by kernel_rfl
theorem bp107_0_1_2_3 : bPl Tryd.prog 107 [0, 1, 2, 3] = some ([.int .u32 0, .int .u32 0, .int .u32 0, .int .u32 0, .int .u32 0, .int .u32 0, .int .u32 0, .int .u32 0, .int .u32 0, .int .u32 0, .int .u32 0, .int .u32 0, .int .u32 0, .int .u32 0, .int .u32 0, .int .u32 0], [(0, 1), (1, 1), (2, 1), (3, 1)]) := by kernel_rfl
theorem ar22 : arE Tryd.prog 22 = some (32, 5, 1) := by kernel_rfl
theorem go74 : goFn Tryd.prog 74 = true := by kernel_rfl
theorem ar25 : arE Tryd.prog 25 = some (12, 5, 1) := by kernel_rfl
theorem go75 : goFn Tryd.prog 75 = true := by kernel_rfl
theorem cv69_5 : cvK Tryd.prog 69 5 = some .u8 := by kernel_rfl
theorem ar85 : arE Tryd.prog 85 = some (64, 5, 1) := by kernel_rfl
theorem sz5 : szT Tryd.prog 5 = some 1 := by kernel_rfl
theorem ag85 : aggN Tryd.prog 85 = some (some 64) := by kernel_rfl
theorem sz85 : szT Tryd.prog 85 = some 64 := by kernel_rfl
theorem sn27 : (slE Tryd.prog 27).isSome = true := by kernel_rfl
theorem ag22 : aggN Tryd.prog 22 = some (some 32) := by kernel_rfl
theorem ag25 : aggN Tryd.prog 25 = some (some 12) := by kernel_rfl
theorem cv3_69 : cvK Tryd.prog 3 69 = some .u32 := by kernel_rfl
theorem go57 : goFn Tryd.prog 57 = true := by kernel_rfl
theorem zv5 : (Tryd.prog.info? 5).bind (·.zero) = some (.int .u8 0) := by kernel_rfl
end Fx
theorem word_arr (b n : Nat) (T : TypeId) (f : Nat → Y) (j : Int) (k : Nat) (G : PM) (hj : j = ((4 * k : Nat) : Int)) (hk : 4 * k + 3 < n) (hn : n ≤ 1000) : Ct Tryd.prog 74 ([.slice (some ⟨b, 0, none⟩) n n, .int .i64 j] : List Value).toArray (G.add b (cl (ba n f) T)) [] (fun _ μ' u => μ' = [] ∧ u = U (wordW f (4 * k))) := by
  have hw := word_ok ⟨some ⟨b, 0, none⟩, n⟩ (yl n f) j (4 * k) (G.add b (cl (ba n f) T)) ba_sl hj (by rw [yl_len]; exact hk) (by rw [yl_len]; omega)
  rw [wordW_congr (f' := f) (fun j hj => yl_at (by omega)), yl_len] at hw
  exact hw
theorem rBlock_ok (key nonce : Nat → Y) (count : W) (G : PM) : Ct Tryd.prog 57 ([.agg (ba 32 key).toArray, .agg (ba 12 nonce).toArray, U count] : List Value).toArray G [] (fun _ μ' u => μ' = [] ∧ u = .agg (ba 64 (chaB key nonce count)).toArray) := by
  refine Ct.of Tryd.func57 rfl Tryd.ntmps57 rfl fun w0 hs0 => ?_
  refine .seq ?_
  refine Wk.rg [0, 1, 2] rfl rfl ?_
  refine bx rfl (.u rfl) rfl ?_; intro b3
  refine bx rfl (.u rfl) rfl ?_; intro b4
  refine al rfl Fx.zr85 ?_; intro b6
  refine .nil ?_
  refine .code ?_
  refine .seq ?_
  refine Wk.rg [0, 1, 2] rfl rfl ?_
  refine bC rfl .no Fx.bp107_0_1_2_3 (.cons (.u rfl) rfl (.cons (.u rfl) rfl (.cons (.u rfl) rfl (.cons (.u rfl) rfl .nil)))) rfl ?_
  refine al rfl Fx.zr107 ?_; intro b7
  refine sw rfl (.u rfl) (.u rfl) rfl Fx.sz107 .here rfl (by decide) ?_
  refine .nil ?_
  refine .code ?_
  refine .seq ?_
  refine .seq ?_
  refine Wk.rg [0] rfl rfl ?_
  refine asg rfl .no (.u rfl) ?_
  refine .nil ?_
  refine .code ?_
  refine .block ?_
  refine Wk.lop (α := Nat) (fun k => [(8, true, .int .i64 (k : Int))]) (fun k => [.blk b7 (cl (wa 16 (x1 key k)) 107)])
    (fun k Gl => k ≤ 8) (fun k => 8 - k) 0 [(2, true, _), (3, true, _), (4, true, _), (6, true, _), (7, true, _)] [.blk b6 _, .blk b4 _, .blk b3 _]
    (ESub.cons rfl rfl (ESub.cons rfl rfl (ESub.cons rfl rfl (ESub.cons rfl rfl (ESub.cons rfl rfl (ESub.cons rfl rfl ESub.nil))))))
    (MSub.cons .here rfl (MSub.cons .here rfl (MSub.cons .here rfl (MSub.cons .here rfl MSub.nil)))) ?_ ?_
  · show 0 ≤ 8; omega
  intro k N0 Gl0 hN0 hGl0 hF0
  try dsimp only at hF0 hN0 ⊢
  have hk : k ≤ 8 := hF0
  refine .seq ?_
  refine .seq ?_
  refine Wk.rg [0, 1] rfl rfl ?_
  refine mv rfl .no (.u rfl) ?_
  refine cp rfl .no (.u rfl) (.u rfl) rfl ?_
  refine .nil ?_
  refine .code ?_
  refine .cond rfl (fun c1 => ?_) (fun c1 => ?_)
  · have c1k := c1
    try simp only [decide_eq_true_eq, decide_eq_false_iff_not, Int.not_lt, Int.not_le, gt_iff_lt, ge_iff_le, Bool.or_eq_true, Bool.and_eq_true, Bool.or_eq_false_iff, Bool.not_eq_true', Bool.not_eq_false', Int.toNat_natCast] at c1
    refine .skip ?_
    refine .code ?_
    refine .seq ?_
    refine .block ?_
    refine Wk.rg [0, 1, 2, 3, 4, 5, 6, 7] rfl rfl ?_
    refine mv rfl .no (.u rfl) ?_
    refine ar rfl .no (.u rfl) (.u rfl) rfl (fun _ => wrap_i64 (by omega) (by omega)) ?_
    refine sa0 rfl .no Fx.ar22 (.u rfl) ?_
    refine mv rfl .no (.u rfl) ?_
    refine ar rfl .no (.u rfl) (.u rfl) rfl (fun _ => wrap_i64 (by omega) (by omega)) ?_
    refine kp rfl .no Fx.go74 (Eva.cons (.u rfl) (Eva.cons (.u rfl) Eva.nil)) (Gp.add (.there (.there (.there .here))) Gp.nil) (fun _ hle hq => word_arr _ _ _ key _ k _ (by omega) (by omega) (by decide)) ?_
    refine iA rfl .no Fx.ar107 (.u rfl) (.u rfl) (fun _ => by omega) (fun _ => by omega) ?_
    refine s1 rfl (.u rfl) (.u rfl) rfl Fx.sz69 .here (by rw [wa_len]; omega) (wa_set1 (4 + k) (by omega)) ?_
    refine .nil ?_
    refine .blk ?_
    refine .code ?_
    refine Wk.rg [0, 1, 2] rfl rfl ?_
    refine mv rfl .no (.u rfl) ?_
    refine ar rfl .no (.u rfl) (.u rfl) rfl (fun _ => wrap_i64 (by omega) (by omega)) ?_
    refine asg rfl .no (.u rfl) ?_
    refine .nil ?_
    refine We.lpo (k + 1) ?_ ?_ ?_ ?_ ?_
    · exact (ESub.cons rfl rfl (ESub.cons rfl rfl (ESub.cons rfl rfl (ESub.cons rfl rfl (ESub.cons rfl rfl (ESub.cons rfl rfl ESub.nil))))))
    · exact (MSub.cons .here rfl (MSub.cons .here rfl (MSub.cons .here rfl (MSub.cons .here rfl MSub.nil))))
    · first | omega | (dsimp only; omega)
    · exact hGl0
    · show k + 1 ≤ 8; omega
  · have c1k := c1
    try simp only [decide_eq_true_eq, decide_eq_false_iff_not, Int.not_lt, Int.not_le, gt_iff_lt, ge_iff_le, Bool.or_eq_true, Bool.and_eq_true, Bool.or_eq_false_iff, Bool.not_eq_true', Bool.not_eq_false', Int.toNat_natCast] at c1
    refine .exit ?_
    refine .xcode ?_
    refine .xlp ?_
    refine .xblk ?_
    refine .code ?_
    refine .seq ?_
    refine Wk.rg [0, 1, 2] rfl rfl ?_
    obtain rfl : k = 8 := by omega
    refine mv rfl .no (.u rfl) ?_
    refine iA rfl .no Fx.ar107 (.u rfl) (.u rfl) (fun _ => by decide) (fun _ => by decide) ?_
    refine s1 rfl (.u rfl) (.u rfl) rfl Fx.sz69 .here (by rw [wa_len]; decide) (wa_set1 12 rfl) ?_
    refine .nil ?_
    refine .code ?_
    refine .seq ?_
    refine .seq ?_
    refine Wk.rg [0] rfl rfl ?_
    refine asg rfl .no (.u rfl) ?_
    refine .nil ?_
    refine .code ?_
    refine .block ?_
    refine Wk.lop (α := Nat) (fun j => [(9, true, .int .i64 (j : Int))]) (fun j => [.blk b7 (cl (wa 16 (x2 key nonce count j)) 107)])
      (fun j Gl => j ≤ 3) (fun j => 3 - j) 0 [(4, true, _), (6, true, _), (7, true, _)] [.blk b6 _, .blk b4 _, .blk b3 _]
      (ESub.cons rfl rfl (ESub.cons rfl rfl (ESub.cons rfl rfl (ESub.cons rfl rfl ESub.nil))))
      (MSub.cons .here rfl (MSub.cons .here rfl (MSub.cons .here rfl (MSub.cons .here rfl MSub.nil)))) ?_ ?_
    · show 0 ≤ 3; omega
    intro j N1 Gl1 hN1 hGl1 hF1
    try dsimp only at hF1 hN1 ⊢
    have hj : j ≤ 3 := hF1
    refine .seq ?_
    refine .seq ?_
    refine Wk.rg [0, 1] rfl rfl ?_
    refine mv rfl .no (.u rfl) ?_
    refine cp rfl .no (.u rfl) (.u rfl) rfl ?_
    refine .nil ?_
    refine .code ?_
    refine .cond rfl (fun c2 => ?_) (fun c2 => ?_)
    · have c2k := c2
      try simp only [decide_eq_true_eq, decide_eq_false_iff_not, Int.not_lt, Int.not_le, gt_iff_lt, ge_iff_le, Bool.or_eq_true, Bool.and_eq_true, Bool.or_eq_false_iff, Bool.not_eq_true', Bool.not_eq_false', Int.toNat_natCast] at c2
      refine .skip ?_
      refine .code ?_
      refine .seq ?_
      refine .block ?_
      refine Wk.rg [0, 1, 2, 3, 4, 5, 6, 7] rfl rfl ?_
      refine mv rfl .no (.u rfl) ?_
      refine ar rfl .no (.u rfl) (.u rfl) rfl (fun _ => wrap_i64 (by omega) (by omega)) ?_
      refine sa0 rfl .no Fx.ar25 (.u rfl) ?_
      refine mv rfl .no (.u rfl) ?_
      refine ar rfl .no (.u rfl) (.u rfl) rfl (fun _ => wrap_i64 (by omega) (by omega)) ?_
      refine kp rfl .no Fx.go74 (Eva.cons (.u rfl) (Eva.cons (.u rfl) Eva.nil)) (Gp.add (.there (.there .here)) Gp.nil) (fun _ hle hq => word_arr _ _ _ nonce _ j _ (by omega) (by omega) (by decide)) ?_
      refine iA rfl .no Fx.ar107 (.u rfl) (.u rfl) (fun _ => by omega) (fun _ => by omega) ?_
      refine s1 rfl (.u rfl) (.u rfl) rfl Fx.sz69 .here (by rw [wa_len]; omega) (wa_set1 (13 + j) (by omega)) ?_
      refine .nil ?_
      refine .blk ?_
      refine .code ?_
      refine Wk.rg [0, 1, 2] rfl rfl ?_
      refine mv rfl .no (.u rfl) ?_
      refine ar rfl .no (.u rfl) (.u rfl) rfl (fun _ => wrap_i64 (by omega) (by omega)) ?_
      refine asg rfl .no (.u rfl) ?_
      refine .nil ?_
      refine We.lpo (j + 1) ?_ ?_ ?_ ?_ ?_
      · exact (ESub.cons rfl rfl (ESub.cons rfl rfl (ESub.cons rfl rfl (ESub.cons rfl rfl ESub.nil))))
      · exact (MSub.cons .here rfl (MSub.cons .here rfl (MSub.cons .here rfl (MSub.cons .here rfl MSub.nil))))
      · first | omega | (dsimp only; omega)
      · exact hGl1
      · show j + 1 ≤ 3; omega
    · have c2k := c2
      try simp only [decide_eq_true_eq, decide_eq_false_iff_not, Int.not_lt, Int.not_le, gt_iff_lt, ge_iff_le, Bool.or_eq_true, Bool.and_eq_true, Bool.or_eq_false_iff, Bool.not_eq_true', Bool.not_eq_false', Int.toNat_natCast] at c2
      refine .exit ?_
      refine .xcode ?_
      refine .xlp ?_
      refine .xblk ?_
      refine .code ?_
      refine .seq ?_
      refine Wk.rg [0, 1, 2] rfl rfl ?_
      obtain rfl : j = 3 := by omega
      refine lA rfl .no Fx.ag107 (.u rfl) (fun _ => RdN.own .here) (fun _ => rfl) ?_
      refine al rfl Fx.zr107 ?_; intro b10
      refine sw rfl (.u rfl) (.u rfl) rfl Fx.sz107 .here rfl (wa_one _ _) ?_
      refine .nil ?_
      refine .code ?_
      refine .seq ?_
      refine .seq ?_
      refine Wk.rg [0] rfl rfl ?_
      refine asg rfl .no (.u rfl) ?_
      refine .nil ?_
      refine .code ?_
      refine .block ?_
      refine Wk.lop (α := Nat) (fun r => [(11, true, .int .i64 (r : Int))]) (fun r => [.blk b10 (cl (wa 16 (rounds (x2 key nonce count 3) r)) 107)])
        (fun r Gl => r ≤ 10) (fun r => 10 - r) 0 [(6, true, _), (7, true, _), (10, true, _)] [.blk b7 _, .blk b6 _, .blk b4 _, .blk b3 _]
        (ESub.cons rfl rfl (ESub.cons rfl rfl (ESub.cons rfl rfl (ESub.cons rfl rfl ESub.nil))))
        (MSub.cons .here rfl (MSub.cons .here rfl (MSub.cons .here rfl (MSub.cons .here rfl (MSub.cons .here rfl MSub.nil))))) ?_ ?_
      · show 0 ≤ 10; omega
      intro r N2 Gl2 hN2 hGl2 hF2
      try dsimp only at hF2 hN2 ⊢
      have hr : r ≤ 10 := hF2
      refine .seq ?_
      refine .seq ?_
      refine Wk.rg [0, 1] rfl rfl ?_
      refine mv rfl .no (.u rfl) ?_
      refine cp rfl .no (.u rfl) (.u rfl) rfl ?_
      refine .nil ?_
      refine .code ?_
      refine .cond rfl (fun c3 => ?_) (fun c3 => ?_)
      · have c3k := c3
        try simp only [decide_eq_true_eq, decide_eq_false_iff_not, Int.not_lt, Int.not_le, gt_iff_lt, ge_iff_le, Bool.or_eq_true, Bool.and_eq_true, Bool.or_eq_false_iff, Bool.not_eq_true', Bool.not_eq_false', Int.toNat_natCast] at c3
        refine .skip ?_
        refine .code ?_
        refine .seq ?_
        refine .block ?_
        refine .seq ?_
        refine .seq ?_
        refine Wk.rg [0] rfl rfl ?_
        refine asg rfl .no (.u rfl) ?_
        refine .nil ?_
        refine .code ?_
        refine .block ?_
        refine Wk.lop (α := Nat) (fun q => [(12, true, .int .i64 (q : Int))]) (fun q => [.blk b10 (cl (wa 16 (cols (rounds (x2 key nonce count 3) r) q)) 107)])
          (fun q Gl => q ≤ 4) (fun q => 4 - q) 0 [(6, true, _), (7, true, _), (10, true, _), (11, true, _)] [.blk b7 _, .blk b6 _, .blk b4 _, .blk b3 _]
          (ESub.cons rfl rfl (ESub.cons rfl rfl (ESub.cons rfl rfl (ESub.cons rfl rfl (ESub.cons rfl rfl ESub.nil)))))
          (MSub.cons .here rfl (MSub.cons .here rfl (MSub.cons .here rfl (MSub.cons .here rfl (MSub.cons .here rfl MSub.nil))))) ?_ ?_
        · show 0 ≤ 4; omega
        intro q N3 Gl3 hN3 hGl3 hF3
        try dsimp only at hF3 hN3 ⊢
        have hq : q ≤ 4 := hF3
        refine .seq ?_
        refine .seq ?_
        refine Wk.rg [0, 1] rfl rfl ?_
        refine mv rfl .no (.u rfl) ?_
        refine cp rfl .no (.u rfl) (.u rfl) rfl ?_
        refine .nil ?_
        refine .code ?_
        refine .cond rfl (fun c4 => ?_) (fun c4 => ?_)
        · have c4k := c4
          try simp only [decide_eq_true_eq, decide_eq_false_iff_not, Int.not_lt, Int.not_le, gt_iff_lt, ge_iff_le, Bool.or_eq_true, Bool.and_eq_true, Bool.or_eq_false_iff, Bool.not_eq_true', Bool.not_eq_false', Int.toNat_natCast] at c4
          refine .skip ?_
          refine .code ?_
          refine .seq ?_
          refine .block ?_
          refine Wk.rg [0, 1, 2, 3, 4, 5, 6, 7, 8, 9] rfl rfl ?_
          refine lA rfl .no Fx.ag107 (.u rfl) (fun _ => RdN.own .here) (fun _ => rfl) ?_
          refine mv rfl .no (.u rfl) ?_
          refine mv rfl .no (.u rfl) ?_
          refine ar rfl .no (.u rfl) (.u rfl) rfl (fun _ => wrap_i64 (by omega) (by omega)) ?_
          refine mv rfl .no (.u rfl) ?_
          refine ar rfl .no (.u rfl) (.u rfl) rfl (fun _ => wrap_i64 (by omega) (by omega)) ?_
          refine mv rfl .no (.u rfl) ?_
          refine ar rfl .no (.u rfl) (.u rfl) rfl (fun _ => wrap_i64 (by omega) (by omega)) ?_
          refine kv rfl .no Fx.go75 (Eva.cons (.u rfl) (Eva.cons (.u rfl) (Eva.cons (.u rfl) (Eva.cons (.u rfl) (Eva.cons (.u rfl) Eva.nil))))) (fun _ => quarter_ok (cols (rounds (x2 key nonce count 3) r) q) q (4 + q) (8 + q) (12 + q) _ _ _ _ _ (by first | rfl | omega) (by omega) (by omega) (by omega) (by omega) (by omega) (by omega) (by omega)) ?_
          refine sw rfl (.u rfl) (.u rfl) rfl Fx.sz107 .here rfl (wa_one _ _) ?_
          refine .nil ?_
          refine .blk ?_
          refine .code ?_
          refine Wk.rg [0, 1, 2] rfl rfl ?_
          refine mv rfl .no (.u rfl) ?_
          refine ar rfl .no (.u rfl) (.u rfl) rfl (fun _ => wrap_i64 (by omega) (by omega)) ?_
          refine asg rfl .no (.u rfl) ?_
          refine .nil ?_
          refine We.lpo (q + 1) ?_ ?_ ?_ ?_ ?_
          · exact (ESub.cons rfl rfl (ESub.cons rfl rfl (ESub.cons rfl rfl (ESub.cons rfl rfl (ESub.cons rfl rfl ESub.nil)))))
          · exact (MSub.cons .here rfl (MSub.cons .here rfl (MSub.cons .here rfl (MSub.cons .here rfl (MSub.cons .here rfl MSub.nil)))))
          · first | omega | (dsimp only; omega)
          · exact hGl3
          · show q + 1 ≤ 4; omega
        · have c4k := c4
          try simp only [decide_eq_true_eq, decide_eq_false_iff_not, Int.not_lt, Int.not_le, gt_iff_lt, ge_iff_le, Bool.or_eq_true, Bool.and_eq_true, Bool.or_eq_false_iff, Bool.not_eq_true', Bool.not_eq_false', Int.toNat_natCast] at c4
          refine .exit ?_
          refine .xcode ?_
          refine .xlp ?_
          refine .xblk ?_
          refine .code ?_
          refine .seq ?_
          refine Wk.rg [0] rfl rfl ?_
          obtain rfl : q = 4 := by omega
          refine asg rfl .no (.u rfl) ?_
          refine .nil ?_
          refine .code ?_
          refine .block ?_
          refine Wk.lop (α := Nat) (fun p => [(13, true, .int .i64 (p : Int))]) (fun p => [.blk b10 (cl (wa 16 (diags (cols (rounds (x2 key nonce count 3) r) 4) p)) 107)])
            (fun p Gl => p ≤ 4) (fun p => 4 - p) 0 [(6, true, _), (7, true, _), (10, true, _), (11, true, _)] [.blk b7 _, .blk b6 _, .blk b4 _, .blk b3 _]
            (ESub.cons rfl rfl (ESub.cons rfl rfl (ESub.cons rfl rfl (ESub.cons rfl rfl (ESub.cons rfl rfl ESub.nil)))))
            (MSub.cons .here rfl (MSub.cons .here rfl (MSub.cons .here rfl (MSub.cons .here rfl (MSub.cons .here rfl MSub.nil))))) ?_ ?_
          · show 0 ≤ 4; omega
          intro p N4 Gl4 hN4 hGl4 hF4
          try dsimp only at hF4 hN4 ⊢
          have hp : p ≤ 4 := hF4
          refine .seq ?_
          refine .seq ?_
          refine Wk.rg [0, 1] rfl rfl ?_
          refine mv rfl .no (.u rfl) ?_
          refine cp rfl .no (.u rfl) (.u rfl) rfl ?_
          refine .nil ?_
          refine .code ?_
          refine .cond rfl (fun c5 => ?_) (fun c5 => ?_)
          · have c5k := c5
            try simp only [decide_eq_true_eq, decide_eq_false_iff_not, Int.not_lt, Int.not_le, gt_iff_lt, ge_iff_le, Bool.or_eq_true, Bool.and_eq_true, Bool.or_eq_false_iff, Bool.not_eq_true', Bool.not_eq_false', Int.toNat_natCast] at c5
            refine .skip ?_
            refine .code ?_
            refine .seq ?_
            refine .block ?_
            refine Wk.rg [0, 1, 2, 3, 4, 5, 6, 7, 8, 9, 10, 11, 12, 13, 14, 15] rfl rfl ?_
            refine lA rfl .no Fx.ag107 (.u rfl) (fun _ => RdN.own .here) (fun _ => rfl) ?_
            refine mv rfl .no (.u rfl) ?_
            refine mv rfl .no (.u rfl) ?_
            refine ar rfl .no (.u rfl) (.u rfl) rfl (fun _ => wrap_i64 (by omega) (by omega)) ?_
            refine rm rfl .no (.u rfl) (.u rfl) (fun _ => by decide) ?_
            refine ar rfl .no (.u rfl) (.u rfl) rfl (fun _ => wrap_i64 (by rw [tm4 (p + 1) (by omega)]; omega) (by rw [tm4 (p + 1) (by omega)]; omega)) ?_
            refine mv rfl .no (.u rfl) ?_
            refine ar rfl .no (.u rfl) (.u rfl) rfl (fun _ => wrap_i64 (by omega) (by omega)) ?_
            refine rm rfl .no (.u rfl) (.u rfl) (fun _ => by decide) ?_
            refine ar rfl .no (.u rfl) (.u rfl) rfl (fun _ => wrap_i64 (by rw [tm4 (p + 2) (by omega)]; omega) (by rw [tm4 (p + 2) (by omega)]; omega)) ?_
            refine mv rfl .no (.u rfl) ?_
            refine ar rfl .no (.u rfl) (.u rfl) rfl (fun _ => wrap_i64 (by omega) (by omega)) ?_
            refine rm rfl .no (.u rfl) (.u rfl) (fun _ => by decide) ?_
            refine ar rfl .no (.u rfl) (.u rfl) rfl (fun _ => wrap_i64 (by rw [tm4 (p + 3) (by omega)]; omega) (by rw [tm4 (p + 3) (by omega)]; omega)) ?_
            refine kv rfl .no Fx.go75 (Eva.cons (.u rfl) (Eva.cons (.u rfl) (Eva.cons (.u rfl) (Eva.cons (.u rfl) (Eva.cons (.u rfl) Eva.nil))))) (fun _ => quarter_ok (diags (cols (rounds (x2 key nonce count 3) r) 4) p) p (4 + (p + 1) % 4) (8 + (p + 2) % 4) (12 + (p + 3) % 4) _ _ _ _ _ (by first | rfl | omega) (by rw [tm4 (p + 1) (by omega)]; omega) (by rw [tm4 (p + 2) (by omega)]; omega) (by rw [tm4 (p + 3) (by omega)]; omega) (by omega) (by omega) (by omega) (by omega)) ?_
            refine sw rfl (.u rfl) (.u rfl) rfl Fx.sz107 .here rfl (wa_one _ _) ?_
            refine .nil ?_
            refine .blk ?_
            refine .code ?_
            refine Wk.rg [0, 1, 2] rfl rfl ?_
            refine mv rfl .no (.u rfl) ?_
            refine ar rfl .no (.u rfl) (.u rfl) rfl (fun _ => wrap_i64 (by omega) (by omega)) ?_
            refine asg rfl .no (.u rfl) ?_
            refine .nil ?_
            refine We.lpo (p + 1) ?_ ?_ ?_ ?_ ?_
            · exact (ESub.cons rfl rfl (ESub.cons rfl rfl (ESub.cons rfl rfl (ESub.cons rfl rfl (ESub.cons rfl rfl ESub.nil)))))
            · exact (MSub.cons .here rfl (MSub.cons .here rfl (MSub.cons .here rfl (MSub.cons .here rfl (MSub.cons .here rfl MSub.nil)))))
            · first | omega | (dsimp only; omega)
            · exact hGl4
            · show p + 1 ≤ 4; omega
          · have c5k := c5
            try simp only [decide_eq_true_eq, decide_eq_false_iff_not, Int.not_lt, Int.not_le, gt_iff_lt, ge_iff_le, Bool.or_eq_true, Bool.and_eq_true, Bool.or_eq_false_iff, Bool.not_eq_true', Bool.not_eq_false', Int.toNat_natCast] at c5
            refine .exit ?_
            refine .xcode ?_
            refine .xlp ?_
            refine .xblk ?_
            refine .blk ?_
            refine .code ?_
            refine Wk.rg [0, 1, 2] rfl rfl ?_
            refine mv rfl .no (.u rfl) ?_
            refine ar rfl .no (.u rfl) (.u rfl) rfl (fun _ => wrap_i64 (by omega) (by omega)) ?_
            refine asg rfl .no (.u rfl) ?_
            refine .nil ?_
            obtain rfl : p = 4 := by omega
            refine We.lpo (r + 1) ?_ ?_ ?_ ?_ ?_
            · exact (ESub.cons rfl rfl (ESub.cons rfl rfl (ESub.cons rfl rfl (ESub.cons rfl rfl ESub.nil))))
            · exact (MSub.cons .here rfl (MSub.cons .here rfl (MSub.cons .here rfl (MSub.cons .here rfl (MSub.cons .here rfl MSub.nil)))))
            · first | omega | (dsimp only; omega)
            · exact hGl2.trans (hGl3.trans hGl4)
            · show r + 1 ≤ 10; omega
      · have c3k := c3
        try simp only [decide_eq_true_eq, decide_eq_false_iff_not, Int.not_lt, Int.not_le, gt_iff_lt, ge_iff_le, Bool.or_eq_true, Bool.and_eq_true, Bool.or_eq_false_iff, Bool.not_eq_true', Bool.not_eq_false', Int.toNat_natCast] at c3
        refine .exit ?_
        refine .xcode ?_
        refine .xlp ?_
        refine .xblk ?_
        refine .code ?_
        refine .seq ?_
        refine Wk.rg [0] rfl rfl ?_
        obtain rfl : r = 10 := by omega
        refine al rfl Fx.zr85 ?_; intro b14
        refine .nil ?_
        refine .code ?_
        refine .seq ?_
        refine .seq ?_
        refine Wk.rg [0] rfl rfl ?_
        refine asg rfl .no (.u rfl) ?_
        refine .nil ?_
        refine .code ?_
        refine .block ?_
        refine Wk.lop (α := Nat) (fun i => [(15, true, .int .i64 (i : Int))]) (fun i => [.blk b14 (cl (ba 64 (outs (chaB key nonce count) i)) 85)])
          (fun i Gl => i ≤ 64) (fun i => 64 - i) 0 [(6, true, _), (7, true, _), (10, true, _), (14, true, _)] [.blk b10 _, .blk b7 _, .blk b6 _, .blk b4 _, .blk b3 _]
          (ESub.cons rfl rfl (ESub.cons rfl rfl (ESub.cons rfl rfl (ESub.cons rfl rfl (ESub.cons rfl rfl ESub.nil)))))
          (MSub.cons .here rfl (MSub.cons .here rfl (MSub.cons .here rfl (MSub.cons .here rfl (MSub.cons .here rfl (MSub.cons .here rfl MSub.nil)))))) ?_ ?_
        · show 0 ≤ 64; omega
        intro i N5 Gl5 hN5 hGl5 hF5
        try dsimp only at hF5 hN5 ⊢
        have hi : i ≤ 64 := hF5
        refine .seq ?_
        refine .seq ?_
        refine Wk.rg [0, 1] rfl rfl ?_
        refine mv rfl .no (.u rfl) ?_
        refine cp rfl .no (.u rfl) (.u rfl) rfl ?_
        refine .nil ?_
        refine .code ?_
        refine .cond rfl (fun c6 => ?_) (fun c6 => ?_)
        · have c6k := c6
          try simp only [decide_eq_true_eq, decide_eq_false_iff_not, Int.not_lt, Int.not_le, gt_iff_lt, ge_iff_le, Bool.or_eq_true, Bool.and_eq_true, Bool.or_eq_false_iff, Bool.not_eq_true', Bool.not_eq_false', Int.toNat_natCast] at c6
          refine .skip ?_
          refine .code ?_
          refine .seq ?_
          refine .block ?_
          refine .seq ?_
          refine Wk.draw (mc := ⟨false, false⟩) [0, 1, 2, 3, 4, 5, 6, 7, 8, 9] Fx.mix (by kernel_rfl) ?_
          refine mv rfl .no (.u rfl) ?_
          refine qu rfl .no (.u rfl) (.u rfl) (fun _ => by decide) ?_
          refine iA rfl .no Fx.ar107 (.u rfl) (.u rfl) (fun _ => by rw [qd4 i rfl (by omega)]; omega) (fun _ => by rw [qd4 i rfl (by omega)]; omega) ?_
          refine ld rfl .no Fx.ag69 (.u rfl) (fun _ => Rd.own (.there .here) (wa_at1 (i / 4) (by rw [qd4 i rfl (by omega)]; omega) (by omega))) ?_
          refine mv rfl .no (.u rfl) ?_
          refine qu rfl .no (.u rfl) (.u rfl) (fun _ => by decide) ?_
          refine iA rfl .no Fx.ar107 (.u rfl) (.u rfl) (fun _ => by rw [qd4 i rfl (by omega)]; omega) (fun _ => by rw [qd4 i rfl (by omega)]; omega) ?_
          refine ld rfl .no Fx.ag69 (.u rfl) (fun _ => Rd.own (.there (.there .here)) (wa_at1 (i / 4) (by rw [qd4 i rfl (by omega)]; omega) (by omega))) ?_
          refine bw (k := .u32) rfl .no rfl (.u rfl) (.u rfl) rfl ?_
          refine asg rfl .no (.u rfl) ?_
          refine .nil ?_
          refine .code ?_
          refine Wk.rg [0, 1, 2, 3, 4, 5, 6, 7, 8] rfl rfl ?_
          refine mv rfl .no (.u rfl) ?_
          refine mv rfl .no (.u rfl) ?_
          refine mv rfl .no (.u rfl) ?_
          refine rm rfl .no (.u rfl) (.u rfl) (fun _ => by decide) ?_
          refine ar rfl .no (.u rfl) (.u rfl) rfl (fun _ => wrap_i64 (by rw [tm4 i rfl]; omega) (by rw [tm4 i rfl]; omega)) ?_
          refine rw' (k := .u32) rfl .no (.u rfl) (.u rfl) (fun _ => by rw [tm4 i rfl]; omega) ?_
          refine cu (k := .u32) rfl .no rfl Fx.cv69_5 (.u rfl) ?_
          refine iA rfl .no Fx.ar85 (.u rfl) (.u rfl) (fun _ => by omega) (fun _ => by omega) ?_
          refine s1 rfl (.u rfl) (.u rfl) rfl Fx.sz5 .here (by rw [ba_len]; omega) (ba_set1 i (by omega)) ?_
          refine .nil ?_
          refine .blk ?_
          refine .code ?_
          refine Wk.rg [0, 1, 2] rfl rfl ?_
          refine mv rfl .no (.u rfl) ?_
          refine ar rfl .no (.u rfl) (.u rfl) rfl (fun _ => wrap_i64 (by omega) (by omega)) ?_
          refine asg rfl .no (.u rfl) ?_
          refine .nil ?_
          refine We.lpo (i + 1) ?_ ?_ ?_ ?_ ?_
          · exact (ESub.cons rfl rfl (ESub.cons rfl rfl (ESub.cons rfl rfl (ESub.cons rfl rfl (ESub.cons rfl rfl ESub.nil)))))
          · exact (MSub.cons .here (out_step (tm4 i rfl)) (MSub.cons .here rfl (MSub.cons .here rfl (MSub.cons .here rfl (MSub.cons .here rfl (MSub.cons .here rfl MSub.nil))))))
          · first | omega | (dsimp only; omega)
          · exact hGl5
          · show i + 1 ≤ 64; omega
        · have c6k := c6
          try simp only [decide_eq_true_eq, decide_eq_false_iff_not, Int.not_lt, Int.not_le, gt_iff_lt, ge_iff_le, Bool.or_eq_true, Bool.and_eq_true, Bool.or_eq_false_iff, Bool.not_eq_true', Bool.not_eq_false', Int.toNat_natCast] at c6
          refine .exit ?_
          refine .xcode ?_
          refine .xlp ?_
          refine .xblk ?_
          refine .code ?_
          refine .seq ?_
          refine Wk.rg [0, 1] rfl rfl ?_
          refine lA rfl .no Fx.ag85 (.u rfl) (fun _ => RdN.own .here) (fun _ => rfl) ?_
          refine sw rfl (.u rfl) (.u rfl) rfl Fx.sz85 (.there (.there (.there .here))) rfl (ba_one _ _) ?_
          refine .nil ?_
          refine .code ?_
          refine .ret ?_
          refine We.fin0 Tryd.results57 (.cell rfl (fun w hw => run_loadVarN Fx.ag85 (RdN.own .here) rfl hw) .nil) ?_
          obtain rfl : i = 64 := by omega
          exact ⟨rfl, by rw [ba_congr (fun i hi => (outs_eq (chaB key nonce count) hi).symm)]; rfl⟩

theorem rCross_ok (key nonce : Nat → Y) (count : W) (h : Sh) (xs : List Y) (G : PM) (hs : SlR G 1 encY h xs) (hl : xs.length ≤ 140737488351232) : Ct Tryd.prog 35 ([.agg (ba 32 key).toArray, .agg (ba 12 nonce).toArray, U count, h.val xs.length] : List Value).toArray G [] (fun G' μ' u => μ' = [] ∧ ∃ h : Sh, u = h.val (crossL key nonce count xs).length ∧ SlR G' 1 encY h (crossL key nonce count xs)) := by
  refine Ct.of Tryd.func35 rfl Tryd.ntmps35 rfl fun w0 hs0 => ?_
  refine .seq ?_
  refine Wk.rg [0, 1, 2] rfl rfl ?_
  refine bx rfl (.u rfl) rfl ?_; intro b4
  refine bx rfl (.u rfl) rfl ?_; intro b5
  refine asg rfl .no (.u rfl) ?_
  refine .nil ?_
  refine .code ?_
  refine .seq ?_
  refine Wk.rg [0] rfl rfl ?_
  refine asg rfl .no (.u rfl) ?_
  refine .nil ?_
  refine .code ?_
  refine .seq ?_
  refine Wk.rg [0] rfl rfl ?_
  refine al rfl Fx.zr85 ?_; intro b10
  refine .nil ?_
  refine .code ?_
  refine .seq ?_
  refine .seq ?_
  refine Wk.rg [0] rfl rfl ?_
  refine asg rfl .no (.u rfl) ?_
  refine .nil ?_
  refine .code ?_
  refine .block ?_
  refine wk_nilRow 5 1 ?_
  refine Wk.lop (α := Nat × Value) (fun gh => [(9, true, gh.2), (11, true, .int .i64 (gh.1 : Int))]) (fun gh => [.row gh.2 5 1 gh.1 (ba gh.1 (crF key nonce count xs)), .blk b10 (cl (ba 64 (nowF key nonce count gh.1)) 85)])
    (fun gh Gl => gh.1 ≤ xs.length) (fun gh => xs.length - gh.1) (0, .slice none 0 0) [(2, true, _), (3, true, _), (4, true, _), (5, true, _), (10, true, _)] [.blk b5 _, .blk b4 _]
    (ESub.cons rfl rfl (ESub.cons rfl rfl (ESub.cons rfl rfl (ESub.cons rfl rfl (ESub.cons rfl rfl (ESub.cons rfl rfl (ESub.cons rfl rfl ESub.nil)))))))
    (MSub.cons .here rfl (MSub.cons .here rfl (MSub.cons .here rfl (MSub.cons .here rfl MSub.nil)))) ?_ ?_
  · show 0 ≤ xs.length; omega
  intro gh N0 Gl0 hN0 hGl0 hF0
  obtain ⟨k, v⟩ := gh; dsimp only at hF0 hN0 ⊢
  have hk : k ≤ xs.length := hF0
  refine .seq ?_
  refine .seq ?_
  refine Wk.rg [0, 1, 2, 3] rfl rfl ?_
  refine mv rfl .no (.u rfl) ?_
  refine mv rfl .no (.u rfl) ?_
  refine ln rfl .no Fx.sn27 (.u rfl) ?_
  refine cp rfl .no (.u rfl) (.u rfl) rfl ?_
  refine .nil ?_
  refine .code ?_
  refine .cond rfl (fun c1 => ?_) (fun c1 => ?_)
  · have c1k := c1
    try simp only [decide_eq_true_eq, decide_eq_false_iff_not, Int.not_lt, Int.not_le, gt_iff_lt, ge_iff_le, Bool.or_eq_true, Bool.and_eq_true, Bool.or_eq_false_iff, Bool.not_eq_true', Bool.not_eq_false', Int.toNat_natCast] at c1
    refine .skip ?_
    refine .code ?_
    refine .seq ?_
    refine .block ?_
    refine .seq ?_
    refine .seq ?_
    refine Wk.rg [0, 1, 2] rfl rfl ?_
    refine mv rfl .no (.u rfl) ?_
    refine rm rfl .no (.u rfl) (.u rfl) (fun _ => by decide) ?_
    refine cp rfl .no (.u rfl) (.u rfl) rfl ?_
    refine .nil ?_
    refine .code ?_
    refine .cond rfl (fun c2 => ?_) (fun c2 => ?_)
    · have c2k := c2
      try simp only [decide_eq_true_eq, decide_eq_false_iff_not, Int.not_lt, Int.not_le, gt_iff_lt, ge_iff_le, Bool.or_eq_true, Bool.and_eq_true, Bool.or_eq_false_iff, Bool.not_eq_true', Bool.not_eq_false', Int.toNat_natCast] at c2
      refine Wk.rg [0, 1, 2, 3, 4, 5, 6, 7, 8] rfl rfl ?_
      refine lA rfl .no Fx.ag22 (.u rfl) (fun _ => RdN.own (.there (.there (.there .here)))) (fun _ => rfl) ?_
      refine lA rfl .no Fx.ag25 (.u rfl) (fun _ => RdN.own (.there (.there .here))) (fun _ => rfl) ?_
      refine mv rfl .no (.u rfl) ?_
      refine mv rfl .no (.u rfl) ?_
      refine qu rfl .no (.u rfl) (.u rfl) (fun _ => by decide) ?_
      refine ci rfl .no rfl Fx.cv3_69 (.u rfl) ?_
      refine bw (k := .u32) rfl .no rfl (.u rfl) (.u rfl) rfl ?_
      refine kv rfl .no Fx.go57 (Eva.cons (.u rfl) (Eva.cons (.u rfl) (Eva.cons (.u rfl) Eva.nil))) (fun _ => rBlock_ok _ _ _ _) ?_
      refine sw rfl (.u rfl) (.u rfl) rfl Fx.sz85 (.there .here) ((ba_len _ _).trans (ba_len _ _).symm) (ba_one _ _) ?_
      refine .nil ?_
      simp only [qd64 (x := (k : Int)) k rfl (by omega), BitVec.ofInt_natCast]
      refine .code ?_
      refine Wk.draw (mc := ⟨false, false⟩) [0, 1, 2, 3, 4, 5, 6, 7, 8, 9, 10, 11, 12] Fx.mix (by kernel_rfl) ?_
      refine mv rfl .no (.u rfl) ?_
      refine mv rfl .no (.u rfl) ?_
      refine mv rfl .no (.u rfl) ?_
      refine ih rfl .no Fx.se27 (.u rfl) (.u rfl) (fun _ => by omega) (fun _ => by omega) (fun _ => hs.nn (k := k) (by omega)) ?_
      refine ld rfl .no Fx.ag5 (.u rfl) (fun _ => ((hs.mono hGl0).yat k (by omega) (by omega)).rd) ?_
      refine mv rfl .no (.u rfl) ?_
      refine rm rfl .no (.u rfl) (.u rfl) (fun _ => by decide) ?_
      refine iA rfl .no Fx.ar85 (.u rfl) (.u rfl) (fun _ => by rw [tm64 k rfl]; omega) (fun _ => by rw [tm64 k rfl]; omega) ?_
      refine ld rfl .no Fx.ag5 (.u rfl) (fun _ => Rd.own .here (ba_at1 (k % 64) (by rw [tm64 k rfl]; omega) (by omega))) ?_
      refine bw (k := .u8) rfl .no rfl (.u rfl) (.u rfl) rfl ?_
      refine Go.Tan.b1 rfl Fx.se27 Fx.zv5 (.u rfl) rfl rfl (by decide) ?_; intro b39
      refine ap rfl Fx.se27 Fx.zv5 rfl (.u rfl) (.u rfl) (.there (.there .here)) (rfl) (fun _ => ⟨_, _, rfl, RdN.own .here⟩) (fun u hu => by rw [List.mem_singleton.1 hu]; rfl) (by omega) (by unfold maxLen; omega) ?_; intro v40
      refine asg rfl .no (.u rfl) ?_
      refine .nil ?_
      refine .blk ?_
      refine .code ?_
      refine Wk.rg [0, 1, 2] rfl rfl ?_
      refine mv rfl .no (.u rfl) ?_
      refine ar rfl .no (.u rfl) (.u rfl) rfl (fun _ => wrap_i64 (by omega) (by omega)) ?_
      refine asg rfl .no (.u rfl) ?_
      refine .nil ?_
      refine We.lpo (k + 1, v40) ?_ ?_ ?_ ?_ ?_
      · exact (ESub.cons rfl rfl (ESub.cons rfl rfl (ESub.cons rfl rfl (ESub.cons rfl rfl (ESub.cons rfl rfl (ESub.cons rfl rfl (ESub.cons rfl rfl ESub.nil)))))))
      · exact (MSub.cons .here (cr_row rfl) (MSub.cons (.there .here) rfl (MSub.cons (.there .here) rfl (MSub.cons (.there .here) rfl MSub.nil))))
      · first | omega | (dsimp only; omega)
      · exact hGl0
      · show k + 1 ≤ xs.length; omega
    · have c2k := c2
      try simp only [decide_eq_true_eq, decide_eq_false_iff_not, Int.not_lt, Int.not_le, gt_iff_lt, ge_iff_le, Bool.or_eq_true, Bool.and_eq_true, Bool.or_eq_false_iff, Bool.not_eq_true', Bool.not_eq_false', Int.toNat_natCast] at c2
      refine .skip ?_
      refine .code ?_
      refine Wk.draw (mc := ⟨false, false⟩) [0, 1, 2, 3, 4, 5, 6, 7, 8, 9, 10, 11, 12] Fx.mix (by kernel_rfl) ?_
      refine mv rfl .no (.u rfl) ?_
      refine mv rfl .no (.u rfl) ?_
      refine mv rfl .no (.u rfl) ?_
      refine ih rfl .no Fx.se27 (.u rfl) (.u rfl) (fun _ => by omega) (fun _ => by omega) (fun _ => hs.nn (k := k) (by omega)) ?_
      refine ld rfl .no Fx.ag5 (.u rfl) (fun _ => ((hs.mono hGl0).yat k (by omega) (by omega)).rd) ?_
      refine mv rfl .no (.u rfl) ?_
      refine rm rfl .no (.u rfl) (.u rfl) (fun _ => by decide) ?_
      refine iA rfl .no Fx.ar85 (.u rfl) (.u rfl) (fun _ => by rw [tm64 k rfl]; omega) (fun _ => by rw [tm64 k rfl]; omega) ?_
      refine ld rfl .no Fx.ag5 (.u rfl) (fun _ => Rd.own (.there .here) (ba_at1 (k % 64) (by rw [tm64 k rfl]; omega) (by omega))) ?_
      refine bw (k := .u8) rfl .no rfl (.u rfl) (.u rfl) rfl ?_
      refine Go.Tan.b1 rfl Fx.se27 Fx.zv5 (.u rfl) rfl rfl (by decide) ?_; intro b39
      refine ap rfl Fx.se27 Fx.zv5 rfl (.u rfl) (.u rfl) (.there .here) (rfl) (fun _ => ⟨_, _, rfl, RdN.own .here⟩) (fun u hu => by rw [List.mem_singleton.1 hu]; rfl) (by omega) (by unfold maxLen; omega) ?_; intro v40
      refine asg rfl .no (.u rfl) ?_
      refine .nil ?_
      refine .blk ?_
      refine .code ?_
      refine Wk.rg [0, 1, 2] rfl rfl ?_
      refine mv rfl .no (.u rfl) ?_
      refine ar rfl .no (.u rfl) (.u rfl) rfl (fun _ => wrap_i64 (by omega) (by omega)) ?_
      refine asg rfl .no (.u rfl) ?_
      refine .nil ?_
      refine We.lpo (k + 1, v40) ?_ ?_ ?_ ?_ ?_
      · exact (ESub.cons rfl rfl (ESub.cons rfl rfl (ESub.cons rfl rfl (ESub.cons rfl rfl (ESub.cons rfl rfl (ESub.cons rfl rfl (ESub.cons rfl rfl ESub.nil)))))))
      · exact (MSub.cons .here (cr_row (nowF_step c2k)) (MSub.cons (.there .here) (by rw [nowF_step c2k]; rfl) (MSub.cons (.there .here) rfl (MSub.cons (.there .here) rfl MSub.nil))))
      · first | omega | (dsimp only; omega)
      · exact hGl0
      · show k + 1 ≤ xs.length; omega
  · have c1k := c1
    try simp only [decide_eq_true_eq, decide_eq_false_iff_not, Int.not_lt, Int.not_le, gt_iff_lt, ge_iff_le, Bool.or_eq_true, Bool.and_eq_true, Bool.or_eq_false_iff, Bool.not_eq_true', Bool.not_eq_false', Int.toNat_natCast] at c1
    refine .exit ?_
    refine .xcode ?_
    refine .xlp ?_
    refine .xblk ?_
    refine .code ?_
    refine .seq ?_
    refine Wk.rg [0, 1] rfl rfl ?_
    refine mv rfl .no (.u rfl) ?_
    refine asg rfl .no (.u rfl) ?_
    refine .nil ?_
    refine .code ?_
    refine .ret ?_
    refine we_fr .here (fun b hb => by cases hb) ?_
    intro Gf hh hlef hv hcap hnn hrd; subst hv
    refine We.fin0 Tryd.results35 (.tmp rfl .nil) ?_
    obtain rfl : k = xs.length := by omega
    exact ⟨rfl, hh, by rw [crossL, yl_len]; rfl, SlR.ofBa hcap hnn hrd⟩

end Go.Proofs.YtoogjfldgeiapaaDoor
