/- Contracts of functions, walked. -/
import Derived.Test.YtoogjfldgeiapaaDoorSealQ
namespace Go.Proofs.YtoogjfldgeiapaaDoor
set_option linter.unusedSimpArgs false
set_option linter.unusedVariables false
open Go.Tan Go.RowKit

namespace Fx
theorem se109 : slE Tryd.prog 109 = some (69, 1, 4) := by kernel_rfl
theorem sn109 : (slE Tryd.prog 109).isSome = true := by kernel_rfl
theorem go70 : goFn Tryd.prog 70 = true := by kernel_rfl
theorem go71 : goFn Tryd.prog 71 = true := by kernel_rfl
end Fx
theorem words_ok (y : Nat → W) (f : Nat → Y) (m bt bk off n cap kn : Nat) (T T2 : TypeId) (G : PM) (hm : off + n ≤ m) (hk4 : 4 * n ≤ kn) (hn : n ≤ 1000) : Ct Tryd.prog 70 ([(Sh.mk (some ⟨bt, off, none⟩) cap).val n, (Sh.mk (some ⟨bk, 0, none⟩) kn).val kn] : List Value).toArray G ([.blk bt (cl (wa m y) T), .blk bk (cl (ba kn f) T2)] : Mem) (fun G' μ' u => μ' = [.blk bt (cl (wa m (setW y f off n)) T), .blk bk (cl (ba kn f) T2)] ∧ u = .tuple #[]) := by
  refine Ct.of Tryd.func70 rfl Tryd.ntmps70 rfl fun w0 hs0 => ?_
  refine .seq ?_
  refine Wk.rg [0, 1, 2] rfl rfl ?_
  refine mv rfl .no (.u rfl) ?_
  refine ln rfl .no Fx.sn109 (.u rfl) ?_
  refine mv rfl .no (.u rfl) ?_
  refine .nil ?_
  refine .code ?_
  refine .block ?_
  refine Wk.lop (α := Nat) (fun i => [(8, true, .int .i64 (i : Int))]) (fun i => [.blk bt (cl (wa m (setW y f off i)) T)])
    (fun i Gl => i ≤ n) (fun i => n - i) 0 [(0, true, _), (1, true, _), (7, true, _)] [.blk bk _]
    (ESub.cons rfl rfl (ESub.cons rfl rfl (ESub.cons rfl rfl (ESub.cons rfl rfl ESub.nil))))
    (MSub.cons .here rfl (MSub.cons .here rfl MSub.nil)) ?_ ?_
  · show 0 ≤ n; omega
  intro i N0 Gl0 hN0 hGl0 hF0
  try dsimp only at hF0 hN0 ⊢
  have hi : i ≤ n := hF0
  refine .seq ?_
  refine Wk.rg [0] rfl rfl ?_
  refine cp rfl .no (.u rfl) (.u rfl) rfl ?_
  refine .nil ?_
  refine .code ?_
  refine .seq ?_
  refine .cond rfl (fun c1 => ?_) (fun c1 => ?_)
  · have c1k := c1
    try simp only [decide_eq_true_eq, decide_eq_false_iff_not, Int.not_lt, Int.not_le, gt_iff_lt, ge_iff_le, Bool.or_eq_true, Bool.and_eq_true, Bool.or_eq_false_iff, Bool.not_eq_true', Bool.not_eq_false', Int.toNat_natCast] at c1
    refine .skip ?_
    refine .code ?_
    refine .seq ?_
    refine .block ?_
    refine .seq ?_
    refine Wk.rg [0, 1] rfl rfl ?_
    refine mv rfl .no (.u rfl) ?_
    refine asg rfl .no (.u rfl) ?_
    refine .nil ?_
    refine .code ?_
    refine .seq ?_
    refine Wk.rg [0] rfl rfl ?_
    refine asg rfl .no (.u rfl) ?_
    refine .nil ?_
    refine .code ?_
    refine .block ?_
    refine Wk.lop (α := Nat) (fun c => [(5, true, .int .i64 (3 - (c : Int)))]) (fun c => [.blk bt (cl (wa m (upd (setW y f off i) (off + i) (shW (setW y f off i (off + i)) f i c))) T)])
      (fun c Gl => c ≤ 4) (fun c => 4 - c) 0 [(0, true, _), (1, true, _), (4, true, _), (7, true, _), (8, true, _)] [.blk bk _]
      (ESub.cons rfl rfl (ESub.cons rfl rfl (ESub.cons rfl rfl (ESub.cons rfl rfl (ESub.cons rfl rfl (ESub.cons rfl rfl ESub.nil))))))
      (MSub.cons .here ws_start (MSub.cons .here rfl MSub.nil)) ?_ ?_
    · show 0 ≤ 4; omega
    intro c N1 Gl1 hN1 hGl1 hF1
    try dsimp only at hF1 hN1 ⊢
    have hc : c ≤ 4 := hF1
    refine .seq ?_
    refine .seq ?_
    refine Wk.rg [0, 1] rfl rfl ?_
    refine mv rfl .no (.u rfl) ?_
    refine cp rfl .no (.u rfl) (.u rfl) rfl ?_
    refine .nil ?_
    refine .code ?_
    refine .cond rfl (fun c2 => ?_) (fun c2 => ?_)
    · have c2k := c2
      try simp only [decide_eq_true_eq, decide_eq_false_iff_not, Int.not_lt, Int.not_le, gt_iff_lt, ge_iff_le, Bool.or_eq_true, Bool.and_eq_true, Bool.or_eq_false_iff, Bool.not_eq_true', Bool.not_eq_false', Int.toNat_natCast] at c2
      refine .skip ?_
      refine .code ?_
      refine .seq ?_
      refine .block ?_
      refine Wk.draw (mc := ⟨false, false⟩) [0, 1, 2, 3, 4, 5, 6, 7, 8, 9, 10, 11, 12, 13, 14, 15, 16, 17] Fx.mix (by kernel_rfl) ?_
      refine mv rfl .no (.u rfl) ?_
      refine mv rfl .no (.u rfl) ?_
      refine mv rfl .no (.u rfl) ?_
      refine mv rfl .no (.u rfl) ?_
      refine ih rfl .no Fx.se109 (.u rfl) (.u rfl) (fun _ => by omega) (fun _ => by omega) (fun _ => rfl) ?_
      refine ld rfl .no Fx.ag69 (.u rfl) (fun _ => Rd.own .here (wa_at1 (off + i) (by show off + _ * 1 = off + i; omega) (by omega))) ?_
      refine lw (k := .u32) rfl .no rfl (.u rfl) (.u rfl) (fun _ => by decide) ?_
      refine mv rfl .no (.u rfl) ?_
      refine mv rfl .no (.u rfl) ?_
      refine ar rfl .no (.u rfl) (.u rfl) rfl (fun _ => wrap_i64 (by omega) (by omega)) ?_
      refine mv rfl .no (.u rfl) ?_
      refine ar rfl .no (.u rfl) (.u rfl) rfl (fun _ => wrap_i64 (by omega) (by omega)) ?_
      refine ih rfl .no Fx.se27 (.u rfl) (.u rfl) (fun _ => by omega) (fun _ => by omega) (fun _ => rfl) ?_
      refine ld rfl .no Fx.ag5 (.u rfl) (fun _ => Rd.own (.there .here) (ba_at1 (4 * i + (3 - c)) (by show 0 + _ * 1 = _; omega) (by omega))) ?_
      refine cu (k := .u8) rfl .no rfl Fx.cv5_69 (.u rfl) ?_
      refine bw (k := .u32) rfl .no rfl (.u rfl) (.u rfl) rfl ?_
      refine ih rfl .no Fx.se109 (.u rfl) (.u rfl) (fun _ => by omega) (fun _ => by omega) (fun _ => rfl) ?_
      refine s1 rfl (.u rfl) (.u rfl) rfl Fx.sz69 .here (by rw [wa_len]; show off + _ * 1 < m; omega) (wa_set1 (off + i) (by show off + _ * 1 = off + i; omega)) ?_
      refine .nil ?_
      refine .blk ?_
      refine .code ?_
      refine Wk.rg [0, 1, 2] rfl rfl ?_
      refine mv rfl .no (.u rfl) ?_
      refine ar rfl .no (.u rfl) (.u rfl) rfl (fun _ => wrap_i64 (by omega) (by omega)) ?_
      refine asg rfl .no (.u rfl) ?_
      refine .nil ?_
      refine We.lpo (c + 1) ?_ ?_ ?_ ?_ ?_
      · exact (ESub.cons rfl (congrArg _ (by omega)) (ESub.cons rfl rfl (ESub.cons rfl rfl (ESub.cons rfl rfl (ESub.cons rfl rfl (ESub.cons rfl rfl ESub.nil))))))
      · exact (MSub.cons .here (ws_step (by rw [upd_at]; rfl)) (MSub.cons .here rfl MSub.nil))
      · first | omega | (dsimp only; omega)
      · exact hGl1
      · show c + 1 ≤ 4; omega
    · have c2k := c2
      try simp only [decide_eq_true_eq, decide_eq_false_iff_not, Int.not_lt, Int.not_le, gt_iff_lt, ge_iff_le, Bool.or_eq_true, Bool.and_eq_true, Bool.or_eq_false_iff, Bool.not_eq_true', Bool.not_eq_false', Int.toNat_natCast] at c2
      refine .exit ?_
      refine .xcode ?_
      refine .xlp ?_
      refine .xblk ?_
      refine .blk ?_
      refine .code ?_
      refine Wk.rg [0, 1] rfl rfl ?_
      refine ar rfl .no (.u rfl) (.u rfl) rfl (fun _ => wrap_i64 (by omega) (by omega)) ?_
      refine mv rfl .no (.u rfl) ?_
      refine .nil ?_
      refine We.lpo (i + 1) ?_ ?_ ?_ ?_ ?_
      · exact (ESub.cons rfl rfl (ESub.cons rfl rfl (ESub.cons rfl rfl (ESub.cons rfl rfl ESub.nil))))
      · exact (MSub.cons .here (ws_end (by omega)) (MSub.cons .here rfl MSub.nil))
      · first | omega | (dsimp only; omega)
      · exact hGl0.trans hGl1
      · show i + 1 ≤ n; omega
  · have c1k := c1
    try simp only [decide_eq_true_eq, decide_eq_false_iff_not, Int.not_lt, Int.not_le, gt_iff_lt, ge_iff_le, Bool.or_eq_true, Bool.and_eq_true, Bool.or_eq_false_iff, Bool.not_eq_true', Bool.not_eq_false', Int.toNat_natCast] at c1
    refine .exit ?_
    refine .xcode ?_
    refine .xlp ?_
    refine .xblk ?_
    refine .nil ?_
    refine We.fin Tryd.results70 .nil (MSub.cons .here rfl (MSub.cons .here rfl MSub.nil)) ?_
    obtain rfl : i = n := by omega
    exact ⟨rfl, rfl⟩

theorem Block_ok (key nonce : Nat → Y) (count : W) (G : PM) : Ct Tryd.prog 51 ([.agg (ba 32 key).toArray, .agg (ba 12 nonce).toArray, U count] : List Value).toArray G [] (fun _ μ' u => μ' = [] ∧ u = .agg (ba 64 (chaB key nonce count)).toArray) := by
  refine Ct.of Tryd.func51 rfl Tryd.ntmps51 rfl fun w0 hs0 => ?_
  refine .seq ?_
  refine Wk.rg [0, 1, 2] rfl rfl ?_
  refine bx rfl (.u rfl) rfl ?_; intro b3
  refine bx rfl (.u rfl) rfl ?_; intro b4
  refine al rfl Fx.zr85 ?_; intro b6
  refine .nil ?_
  refine .code ?_
  refine .seq ?_
  refine Wk.rg [0, 1, 2] rfl rfl ?_
  refine bC rfl .no Fx.bp107_0_1_2_3 (.cons (.u rfl) rfl (.cons (.u rfl) rfl (.cons (.u rfl) rfl (.cons (.u rfl) rfl .nil)))) rfl ?_
  refine al rfl Fx.zr107 ?_; intro b7
  refine sw rfl (.u rfl) (.u rfl) rfl Fx.sz107 .here rfl (by decide) ?_
  refine .nil ?_
  refine .code ?_
  refine .seq ?_
  refine Wk.draw (mc := ⟨true, false⟩) [0, 1, 2] Fx.mix (by kernel_rfl) ?_
  refine sab rfl .no Fx.ar107 (.u rfl) (.u rfl) (.u rfl) (fun _ => by decide) (fun _ => by decide) (fun _ => by decide) (fun _ => by decide) ?_
  refine sa0 rfl .no Fx.ar22 (.u rfl) ?_
  refine ka rfl (.inl rfl) Fx.go70 (Eva.cons (.u rfl) (Eva.cons (.u rfl) Eva.nil)) (take2 .here (.there (.there .here))) (words_ok (x0) key 16 b7 b3 4 8 12 32 107 22 _ (by decide) (by decide) (by decide)) ?_
  rintro u G2 μ2 hG2 ⟨rfl, rfl⟩
  simp only [lay, List.cons_append, List.nil_append, setW_x1, setW_x2]
  refine .nil ?_
  refine .code ?_
  refine .seq ?_
  refine Wk.rg [0, 1, 2] rfl rfl ?_
  refine mv rfl .no (.u rfl) ?_
  refine iA rfl .no Fx.ar107 (.u rfl) (.u rfl) (fun _ => by decide) (fun _ => by decide) ?_
  refine s1 rfl (.u rfl) (.u rfl) rfl Fx.sz69 .here (by rw [wa_len]; decide) (wa_set1 12 rfl) ?_
  refine .nil ?_
  refine .code ?_
  refine .seq ?_
  refine Wk.draw (mc := ⟨true, false⟩) [0, 1, 2] Fx.mix (by kernel_rfl) ?_
  refine sal rfl .no Fx.ar107 (.u rfl) (.u rfl) (fun _ => by decide) (fun _ => by decide) ?_
  refine sa0 rfl .no Fx.ar25 (.u rfl) ?_
  refine ka rfl (.inl rfl) Fx.go70 (Eva.cons (.u rfl) (Eva.cons (.u rfl) Eva.nil)) (take2 .here (.there (.there .here))) (words_ok (upd (x1 key 8) 12 count) nonce 16 b7 b4 13 3 3 12 107 25 _ (by decide) (by decide) (by decide)) ?_
  rintro u G2 μ2 hG2 ⟨rfl, rfl⟩
  simp only [lay, List.cons_append, List.nil_append, setW_x1, setW_x2]
  refine .nil ?_
  refine .code ?_
  refine .seq ?_
  refine Wk.rg [0, 1, 2] rfl rfl ?_
  refine lA rfl .no Fx.ag107 (.u rfl) (fun _ => RdN.own .here) (fun _ => rfl) ?_
  refine al rfl Fx.zr107 ?_; intro b8
  refine sw rfl (.u rfl) (.u rfl) rfl Fx.sz107 .here rfl (wa_one _ _) ?_
  refine .nil ?_
  refine .code ?_
  refine .seq ?_
  refine .seq ?_
  refine Wk.rg [0] rfl rfl ?_
  refine mv rfl .no (.u rfl) ?_
  refine .nil ?_
  refine .code ?_
  refine .block ?_
  refine Wk.lop (α := Nat) (fun r => [(24, true, .int .i64 (r : Int))]) (fun r => [.blk b8 (cl (wa 16 (rounds (x2 key nonce count 3) r)) 107)])
    (fun r Gl => r ≤ 10) (fun r => 10 - r) 0 [(6, true, _), (7, true, _), (8, true, _)] [.blk b7 _, .blk b4 _, .blk b3 _, .blk b6 _]
    (ESub.cons rfl rfl (ESub.cons rfl rfl (ESub.cons rfl rfl (ESub.cons rfl rfl ESub.nil))))
    (MSub.cons .here rfl (MSub.cons .here rfl (MSub.cons .here rfl (MSub.cons .here rfl (MSub.cons .here rfl MSub.nil))))) ?_ ?_
  · show 0 ≤ 10; omega
  intro r N0 Gl0 hN0 hGl0 hF0
  try dsimp only at hF0 hN0 ⊢
  have hr : r ≤ 10 := hF0
  refine .seq ?_
  refine Wk.rg [0] rfl rfl ?_
  refine cp rfl .no (.u rfl) (.u rfl) rfl ?_
  refine .nil ?_
  refine .code ?_
  refine .seq ?_
  refine .cond rfl (fun c1 => ?_) (fun c1 => ?_)
  · have c1k := c1
    try simp only [decide_eq_true_eq, decide_eq_false_iff_not, Int.not_lt, Int.not_le, gt_iff_lt, ge_iff_le, Bool.or_eq_true, Bool.and_eq_true, Bool.or_eq_false_iff, Bool.not_eq_true', Bool.not_eq_false', Int.toNat_natCast] at c1
    refine .skip ?_
    refine .code ?_
    refine .seq ?_
    refine .block ?_
    refine .seq ?_
    refine .seq ?_
    refine Wk.rg [0] rfl rfl ?_
    refine mv rfl .no (.u rfl) ?_
    refine .nil ?_
    refine .code ?_
    refine .block ?_
    refine Wk.lop (α := Nat) (fun q => [(26, true, .int .i64 (q : Int))]) (fun q => [.blk b8 (cl (wa 16 (colsM (rounds (x2 key nonce count 3) r) q)) 107)])
      (fun q Gl => q ≤ 4) (fun q => 4 - q) 0 [(6, true, _), (7, true, _), (8, true, _), (24, true, _)] [.blk b7 _, .blk b4 _, .blk b3 _, .blk b6 _]
      (ESub.cons rfl rfl (ESub.cons rfl rfl (ESub.cons rfl rfl (ESub.cons rfl rfl (ESub.cons rfl rfl ESub.nil)))))
      (MSub.cons .here rfl (MSub.cons .here rfl (MSub.cons .here rfl (MSub.cons .here rfl (MSub.cons .here rfl MSub.nil))))) ?_ ?_
    · show 0 ≤ 4; omega
    intro q N1 Gl1 hN1 hGl1 hF1
    try dsimp only at hF1 hN1 ⊢
    have hq : q ≤ 4 := hF1
    refine .seq ?_
    refine Wk.rg [0] rfl rfl ?_
    refine cp rfl .no (.u rfl) (.u rfl) rfl ?_
    refine .nil ?_
    refine .code ?_
    refine .seq ?_
    refine .cond rfl (fun c2 => ?_) (fun c2 => ?_)
    · have c2k := c2
      try simp only [decide_eq_true_eq, decide_eq_false_iff_not, Int.not_lt, Int.not_le, gt_iff_lt, ge_iff_le, Bool.or_eq_true, Bool.and_eq_true, Bool.or_eq_false_iff, Bool.not_eq_true', Bool.not_eq_false', Int.toNat_natCast] at c2
      refine .skip ?_
      refine .code ?_
      refine .seq ?_
      refine .block ?_
      refine .seq ?_
      refine Wk.rg [0, 1] rfl rfl ?_
      refine mv rfl .no (.u rfl) ?_
      refine asg rfl .no (.u rfl) ?_
      refine .nil ?_
      refine .code ?_
      refine Wk.draw (mc := ⟨false, false⟩) [0, 1, 2, 3, 4, 5, 6, 7, 8, 9, 10, 11, 12, 13, 14, 15, 16, 17, 18, 19, 20, 21, 22, 23, 24, 25, 26, 27, 28, 29, 30, 31, 32, 33, 34, 35] Fx.mix (by kernel_rfl) ?_
      refine mv rfl .no (.u rfl) ?_
      refine mv rfl .no (.u rfl) ?_
      refine ar rfl .no (.u rfl) (.u rfl) rfl (fun _ => wrap_i64 (by omega) (by omega)) ?_
      refine mv rfl .no (.u rfl) ?_
      refine ar rfl .no (.u rfl) (.u rfl) rfl (fun _ => wrap_i64 (by omega) (by omega)) ?_
      refine mv rfl .no (.u rfl) ?_
      refine ar rfl .no (.u rfl) (.u rfl) rfl (fun _ => wrap_i64 (by omega) (by omega)) ?_
      refine mv rfl .no (.u rfl) ?_
      refine iA rfl .no Fx.ar107 (.u rfl) (.u rfl) (fun _ => by omega) (fun _ => by omega) ?_
      refine ld rfl .no Fx.ag69 (.u rfl) (fun _ => Rd.own .here (wa_at1 q (by omega) (by omega))) ?_
      refine mv rfl .no (.u rfl) ?_
      refine ar rfl .no (.u rfl) (.u rfl) rfl (fun _ => wrap_i64 (by omega) (by omega)) ?_
      refine iA rfl .no Fx.ar107 (.u rfl) (.u rfl) (fun _ => by omega) (fun _ => by omega) ?_
      refine ld rfl .no Fx.ag69 (.u rfl) (fun _ => Rd.own .here (wa_at1 (4 + q) (by omega) (by omega))) ?_
      refine mv rfl .no (.u rfl) ?_
      refine ar rfl .no (.u rfl) (.u rfl) rfl (fun _ => wrap_i64 (by omega) (by omega)) ?_
      refine iA rfl .no Fx.ar107 (.u rfl) (.u rfl) (fun _ => by omega) (fun _ => by omega) ?_
      refine ld rfl .no Fx.ag69 (.u rfl) (fun _ => Rd.own .here (wa_at1 (8 + q) (by omega) (by omega))) ?_
      refine mv rfl .no (.u rfl) ?_
      refine ar rfl .no (.u rfl) (.u rfl) rfl (fun _ => wrap_i64 (by omega) (by omega)) ?_
      refine iA rfl .no Fx.ar107 (.u rfl) (.u rfl) (fun _ => by omega) (fun _ => by omega) ?_
      refine ld rfl .no Fx.ag69 (.u rfl) (fun _ => Rd.own .here (wa_at1 (12 + q) (by omega) (by omega))) ?_
      refine kv rfl .no Fx.go71 (Eva.cons (.u rfl) (Eva.cons (.u rfl) (Eva.cons (.u rfl) (Eva.cons (.u rfl) Eva.nil)))) (fun _ => mix_ok _ _ _ _ _) ?_
      refine mv rfl .no (.u rfl) ?_
      refine ex rfl .no (.u rfl) rfl ?_
      refine ex rfl .no (.u rfl) rfl ?_
      refine ex rfl .no (.u rfl) rfl ?_
      refine ex rfl .no (.u rfl) rfl ?_
      refine iA rfl .no Fx.ar107 (.u rfl) (.u rfl) (fun _ => by omega) (fun _ => by omega) ?_
      refine s1 rfl (.u rfl) (.u rfl) rfl Fx.sz69 .here (by rw [wa_len]; omega) (wa_set1 q (by omega)) ?_
      refine iA rfl .no Fx.ar107 (.u rfl) (.u rfl) (fun _ => by omega) (fun _ => by omega) ?_
      refine s1 rfl (.u rfl) (.u rfl) rfl Fx.sz69 .here (by rw [wa_len]; omega) (wa_set1 (4 + q) (by omega)) ?_
      refine iA rfl .no Fx.ar107 (.u rfl) (.u rfl) (fun _ => by omega) (fun _ => by omega) ?_
      refine s1 rfl (.u rfl) (.u rfl) rfl Fx.sz69 .here (by rw [wa_len]; omega) (wa_set1 (8 + q) (by omega)) ?_
      refine iA rfl .no Fx.ar107 (.u rfl) (.u rfl) (fun _ => by omega) (fun _ => by omega) ?_
      refine s1 rfl (.u rfl) (.u rfl) rfl Fx.sz69 .here (by rw [wa_len]; omega) (wa_set1 (12 + q) (by omega)) ?_
      refine .nil ?_
      refine .blk ?_
      refine .code ?_
      refine Wk.rg [0, 1] rfl rfl ?_
      refine ar rfl .no (.u rfl) (.u rfl) rfl (fun _ => wrap_i64 (by omega) (by omega)) ?_
      refine mv rfl .no (.u rfl) ?_
      refine .nil ?_
      refine We.lpo (q + 1) ?_ ?_ ?_ ?_ ?_
      · exact (ESub.cons rfl rfl (ESub.cons rfl rfl (ESub.cons rfl rfl (ESub.cons rfl rfl (ESub.cons rfl rfl ESub.nil)))))
      · exact (MSub.cons .here rfl (MSub.cons .here rfl (MSub.cons .here rfl (MSub.cons .here rfl (MSub.cons .here rfl MSub.nil)))))
      · first | omega | (dsimp only; omega)
      · exact hGl1
      · show q + 1 ≤ 4; omega
    · have c2k := c2
      try simp only [decide_eq_true_eq, decide_eq_false_iff_not, Int.not_lt, Int.not_le, gt_iff_lt, ge_iff_le, Bool.or_eq_true, Bool.and_eq_true, Bool.or_eq_false_iff, Bool.not_eq_true', Bool.not_eq_false', Int.toNat_natCast] at c2
      refine .exit ?_
      refine .xcode ?_
      refine .xlp ?_
      refine .xblk ?_
      refine .code ?_
      refine .seq ?_
      refine Wk.rg [0, 1, 2, 3, 4, 5, 6, 7, 8, 9, 10, 11, 12, 13, 14, 15, 16, 17, 18, 19, 20, 21] rfl rfl ?_
      obtain rfl : q = 4 := by omega
      simp only [colsM_eq (rounds (x2 key nonce count 3) r) 4 (Nat.le_refl 4)]
      refine iA rfl .no Fx.ar107 (.u rfl) (.u rfl) (fun _ => by decide) (fun _ => by decide) ?_
      refine ld rfl .no Fx.ag69 (.u rfl) (fun _ => Rd.own .here (wa_at1 0 rfl (by decide))) ?_
      refine iA rfl .no Fx.ar107 (.u rfl) (.u rfl) (fun _ => by decide) (fun _ => by decide) ?_
      refine ld rfl .no Fx.ag69 (.u rfl) (fun _ => Rd.own .here (wa_at1 5 rfl (by decide))) ?_
      refine iA rfl .no Fx.ar107 (.u rfl) (.u rfl) (fun _ => by decide) (fun _ => by decide) ?_
      refine ld rfl .no Fx.ag69 (.u rfl) (fun _ => Rd.own .here (wa_at1 10 rfl (by decide))) ?_
      refine iA rfl .no Fx.ar107 (.u rfl) (.u rfl) (fun _ => by decide) (fun _ => by decide) ?_
      refine ld rfl .no Fx.ag69 (.u rfl) (fun _ => Rd.own .here (wa_at1 15 rfl (by decide))) ?_
      refine kv rfl .no Fx.go71 (Eva.cons (.u rfl) (Eva.cons (.u rfl) (Eva.cons (.u rfl) (Eva.cons (.u rfl) Eva.nil)))) (fun _ => mix_ok _ _ _ _ _) ?_
      refine mv rfl .no (.u rfl) ?_
      refine ex rfl .no (.u rfl) rfl ?_
      refine ex rfl .no (.u rfl) rfl ?_
      refine ex rfl .no (.u rfl) rfl ?_
      refine ex rfl .no (.u rfl) rfl ?_
      refine iA rfl .no Fx.ar107 (.u rfl) (.u rfl) (fun _ => by decide) (fun _ => by decide) ?_
      refine s1 rfl (.u rfl) (.u rfl) rfl Fx.sz69 .here (by rw [wa_len]; decide) (wa_set1 0 rfl) ?_
      refine iA rfl .no Fx.ar107 (.u rfl) (.u rfl) (fun _ => by decide) (fun _ => by decide) ?_
      refine s1 rfl (.u rfl) (.u rfl) rfl Fx.sz69 .here (by rw [wa_len]; decide) (wa_set1 5 rfl) ?_
      refine iA rfl .no Fx.ar107 (.u rfl) (.u rfl) (fun _ => by decide) (fun _ => by decide) ?_
      refine s1 rfl (.u rfl) (.u rfl) rfl Fx.sz69 .here (by rw [wa_len]; decide) (wa_set1 10 rfl) ?_
      refine iA rfl .no Fx.ar107 (.u rfl) (.u rfl) (fun _ => by decide) (fun _ => by decide) ?_
      refine s1 rfl (.u rfl) (.u rfl) rfl Fx.sz69 .here (by rw [wa_len]; decide) (wa_set1 15 rfl) ?_
      refine .nil ?_
      refine .code ?_
      refine .seq ?_
      refine Wk.rg [0, 1, 2, 3, 4, 5, 6, 7, 8, 9, 10, 11, 12, 13, 14, 15, 16, 17, 18, 19, 20, 21] rfl rfl ?_
      refine iA rfl .no Fx.ar107 (.u rfl) (.u rfl) (fun _ => by decide) (fun _ => by decide) ?_
      refine ld rfl .no Fx.ag69 (.u rfl) (fun _ => Rd.own .here (wa_at1 1 rfl (by decide))) ?_
      refine iA rfl .no Fx.ar107 (.u rfl) (.u rfl) (fun _ => by decide) (fun _ => by decide) ?_
      refine ld rfl .no Fx.ag69 (.u rfl) (fun _ => Rd.own .here (wa_at1 6 rfl (by decide))) ?_
      refine iA rfl .no Fx.ar107 (.u rfl) (.u rfl) (fun _ => by decide) (fun _ => by decide) ?_
      refine ld rfl .no Fx.ag69 (.u rfl) (fun _ => Rd.own .here (wa_at1 11 rfl (by decide))) ?_
      refine iA rfl .no Fx.ar107 (.u rfl) (.u rfl) (fun _ => by decide) (fun _ => by decide) ?_
      refine ld rfl .no Fx.ag69 (.u rfl) (fun _ => Rd.own .here (wa_at1 12 rfl (by decide))) ?_
      refine kv rfl .no Fx.go71 (Eva.cons (.u rfl) (Eva.cons (.u rfl) (Eva.cons (.u rfl) (Eva.cons (.u rfl) Eva.nil)))) (fun _ => mix_ok _ _ _ _ _) ?_
      refine mv rfl .no (.u rfl) ?_
      refine ex rfl .no (.u rfl) rfl ?_
      refine ex rfl .no (.u rfl) rfl ?_
      refine ex rfl .no (.u rfl) rfl ?_
      refine ex rfl .no (.u rfl) rfl ?_
      refine iA rfl .no Fx.ar107 (.u rfl) (.u rfl) (fun _ => by decide) (fun _ => by decide) ?_
      refine s1 rfl (.u rfl) (.u rfl) rfl Fx.sz69 .here (by rw [wa_len]; decide) (wa_set1 1 rfl) ?_
      refine iA rfl .no Fx.ar107 (.u rfl) (.u rfl) (fun _ => by decide) (fun _ => by decide) ?_
      refine s1 rfl (.u rfl) (.u rfl) rfl Fx.sz69 .here (by rw [wa_len]; decide) (wa_set1 6 rfl) ?_
      refine iA rfl .no Fx.ar107 (.u rfl) (.u rfl) (fun _ => by decide) (fun _ => by decide) ?_
      refine s1 rfl (.u rfl) (.u rfl) rfl Fx.sz69 .here (by rw [wa_len]; decide) (wa_set1 11 rfl) ?_
      refine iA rfl .no Fx.ar107 (.u rfl) (.u rfl) (fun _ => by decide) (fun _ => by decide) ?_
      refine s1 rfl (.u rfl) (.u rfl) rfl Fx.sz69 .here (by rw [wa_len]; decide) (wa_set1 12 rfl) ?_
      refine .nil ?_
      refine .code ?_
      refine .seq ?_
      refine Wk.rg [0, 1, 2, 3, 4, 5, 6, 7, 8, 9, 10, 11, 12, 13, 14, 15, 16, 17, 18, 19, 20, 21] rfl rfl ?_
      refine iA rfl .no Fx.ar107 (.u rfl) (.u rfl) (fun _ => by decide) (fun _ => by decide) ?_
      refine ld rfl .no Fx.ag69 (.u rfl) (fun _ => Rd.own .here (wa_at1 2 rfl (by decide))) ?_
      refine iA rfl .no Fx.ar107 (.u rfl) (.u rfl) (fun _ => by decide) (fun _ => by decide) ?_
      refine ld rfl .no Fx.ag69 (.u rfl) (fun _ => Rd.own .here (wa_at1 7 rfl (by decide))) ?_
      refine iA rfl .no Fx.ar107 (.u rfl) (.u rfl) (fun _ => by decide) (fun _ => by decide) ?_
      refine ld rfl .no Fx.ag69 (.u rfl) (fun _ => Rd.own .here (wa_at1 8 rfl (by decide))) ?_
      refine iA rfl .no Fx.ar107 (.u rfl) (.u rfl) (fun _ => by decide) (fun _ => by decide) ?_
      refine ld rfl .no Fx.ag69 (.u rfl) (fun _ => Rd.own .here (wa_at1 13 rfl (by decide))) ?_
      refine kv rfl .no Fx.go71 (Eva.cons (.u rfl) (Eva.cons (.u rfl) (Eva.cons (.u rfl) (Eva.cons (.u rfl) Eva.nil)))) (fun _ => mix_ok _ _ _ _ _) ?_
      refine mv rfl .no (.u rfl) ?_
      refine ex rfl .no (.u rfl) rfl ?_
      refine ex rfl .no (.u rfl) rfl ?_
      refine ex rfl .no (.u rfl) rfl ?_
      refine ex rfl .no (.u rfl) rfl ?_
      refine iA rfl .no Fx.ar107 (.u rfl) (.u rfl) (fun _ => by decide) (fun _ => by decide) ?_
      refine s1 rfl (.u rfl) (.u rfl) rfl Fx.sz69 .here (by rw [wa_len]; decide) (wa_set1 2 rfl) ?_
      refine iA rfl .no Fx.ar107 (.u rfl) (.u rfl) (fun _ => by decide) (fun _ => by decide) ?_
      refine s1 rfl (.u rfl) (.u rfl) rfl Fx.sz69 .here (by rw [wa_len]; decide) (wa_set1 7 rfl) ?_
      refine iA rfl .no Fx.ar107 (.u rfl) (.u rfl) (fun _ => by decide) (fun _ => by decide) ?_
      refine s1 rfl (.u rfl) (.u rfl) rfl Fx.sz69 .here (by rw [wa_len]; decide) (wa_set1 8 rfl) ?_
      refine iA rfl .no Fx.ar107 (.u rfl) (.u rfl) (fun _ => by decide) (fun _ => by decide) ?_
      refine s1 rfl (.u rfl) (.u rfl) rfl Fx.sz69 .here (by rw [wa_len]; decide) (wa_set1 13 rfl) ?_
      refine .nil ?_
      refine .code ?_
      refine Wk.rg [0, 1, 2, 3, 4, 5, 6, 7, 8, 9, 10, 11, 12, 13, 14, 15, 16, 17, 18, 19, 20, 21] rfl rfl ?_
      refine iA rfl .no Fx.ar107 (.u rfl) (.u rfl) (fun _ => by decide) (fun _ => by decide) ?_
      refine ld rfl .no Fx.ag69 (.u rfl) (fun _ => Rd.own .here (wa_at1 3 rfl (by decide))) ?_
      refine iA rfl .no Fx.ar107 (.u rfl) (.u rfl) (fun _ => by decide) (fun _ => by decide) ?_
      refine ld rfl .no Fx.ag69 (.u rfl) (fun _ => Rd.own .here (wa_at1 4 rfl (by decide))) ?_
      refine iA rfl .no Fx.ar107 (.u rfl) (.u rfl) (fun _ => by decide) (fun _ => by decide) ?_
      refine ld rfl .no Fx.ag69 (.u rfl) (fun _ => Rd.own .here (wa_at1 9 rfl (by decide))) ?_
      refine iA rfl .no Fx.ar107 (.u rfl) (.u rfl) (fun _ => by decide) (fun _ => by decide) ?_
      refine ld rfl .no Fx.ag69 (.u rfl) (fun _ => Rd.own .here (wa_at1 14 rfl (by decide))) ?_
      refine kv rfl .no Fx.go71 (Eva.cons (.u rfl) (Eva.cons (.u rfl) (Eva.cons (.u rfl) (Eva.cons (.u rfl) Eva.nil)))) (fun _ => mix_ok _ _ _ _ _) ?_
      refine mv rfl .no (.u rfl) ?_
      refine ex rfl .no (.u rfl) rfl ?_
      refine ex rfl .no (.u rfl) rfl ?_
      refine ex rfl .no (.u rfl) rfl ?_
      refine ex rfl .no (.u rfl) rfl ?_
      refine iA rfl .no Fx.ar107 (.u rfl) (.u rfl) (fun _ => by decide) (fun _ => by decide) ?_
      refine s1 rfl (.u rfl) (.u rfl) rfl Fx.sz69 .here (by rw [wa_len]; decide) (wa_set1 3 rfl) ?_
      refine iA rfl .no Fx.ar107 (.u rfl) (.u rfl) (fun _ => by decide) (fun _ => by decide) ?_
      refine s1 rfl (.u rfl) (.u rfl) rfl Fx.sz69 .here (by rw [wa_len]; decide) (wa_set1 4 rfl) ?_
      refine iA rfl .no Fx.ar107 (.u rfl) (.u rfl) (fun _ => by decide) (fun _ => by decide) ?_
      refine s1 rfl (.u rfl) (.u rfl) rfl Fx.sz69 .here (by rw [wa_len]; decide) (wa_set1 9 rfl) ?_
      refine iA rfl .no Fx.ar107 (.u rfl) (.u rfl) (fun _ => by decide) (fun _ => by decide) ?_
      refine s1 rfl (.u rfl) (.u rfl) rfl Fx.sz69 .here (by rw [wa_len]; decide) (wa_set1 14 rfl) ?_
      refine .nil ?_
      refine .blk ?_
      refine .code ?_
      refine Wk.rg [0, 1] rfl rfl ?_
      refine ar rfl .no (.u rfl) (.u rfl) rfl (fun _ => wrap_i64 (by omega) (by omega)) ?_
      refine mv rfl .no (.u rfl) ?_
      refine .nil ?_
      refine We.lpo (r + 1) ?_ ?_ ?_ ?_ ?_
      · exact (ESub.cons rfl rfl (ESub.cons rfl rfl (ESub.cons rfl rfl (ESub.cons rfl rfl ESub.nil))))
      · exact (MSub.cons .here (congrArg (fun z => Res.blk b8 (cl (wa 16 z) 107)) (diagM_eq (cols (rounds (x2 key nonce count 3) r) 4))) (MSub.cons .here rfl (MSub.cons .here rfl (MSub.cons .here rfl (MSub.cons .here rfl MSub.nil)))))
      · first | omega | (dsimp only; omega)
      · exact hGl0.trans hGl1
      · show r + 1 ≤ 10; omega
  · have c1k := c1
    try simp only [decide_eq_true_eq, decide_eq_false_iff_not, Int.not_lt, Int.not_le, gt_iff_lt, ge_iff_le, Bool.or_eq_true, Bool.and_eq_true, Bool.or_eq_false_iff, Bool.not_eq_true', Bool.not_eq_false', Int.toNat_natCast] at c1
    refine .exit ?_
    refine .xcode ?_
    refine .xlp ?_
    refine .xblk ?_
    refine .code ?_
    refine .seq ?_
    refine Wk.rg [0] rfl rfl ?_
    obtain rfl : r = 10 := by omega
    refine al rfl Fx.zr85 ?_; intro b10
    refine .nil ?_
    refine .code ?_
    refine .seq ?_
    refine .seq ?_
    refine Wk.rg [0] rfl rfl ?_
    refine mv rfl .no (.u rfl) ?_
    refine .nil ?_
    refine .code ?_
    refine .block ?_
    refine Wk.lop (α := Nat) (fun i => [(135, true, .int .i64 (i : Int))]) (fun i => [.blk b10 (cl (ba 64 (outs (chaB key nonce count) (4 * i))) 85)])
      (fun i Gl => i ≤ 16) (fun i => 16 - i) 0 [(6, true, _), (7, true, _), (8, true, _), (10, true, _)] [.blk b8 _, .blk b7 _, .blk b4 _, .blk b3 _, .blk b6 _]
      (ESub.cons rfl rfl (ESub.cons rfl rfl (ESub.cons rfl rfl (ESub.cons rfl rfl (ESub.cons rfl rfl ESub.nil)))))
      (MSub.cons .here rfl (MSub.cons .here rfl (MSub.cons .here rfl (MSub.cons .here rfl (MSub.cons .here rfl (MSub.cons .here rfl MSub.nil)))))) ?_ ?_
    · show 0 ≤ 16; omega
    intro i N2 Gl2 hN2 hGl2 hF2
    try dsimp only at hF2 hN2 ⊢
    have hi : i ≤ 16 := hF2
    refine .seq ?_
    refine Wk.rg [0] rfl rfl ?_
    refine cp rfl .no (.u rfl) (.u rfl) rfl ?_
    refine .nil ?_
    refine .code ?_
    refine .seq ?_
    refine .cond rfl (fun c3 => ?_) (fun c3 => ?_)
    · have c3k := c3
      try simp only [decide_eq_true_eq, decide_eq_false_iff_not, Int.not_lt, Int.not_le, gt_iff_lt, ge_iff_le, Bool.or_eq_true, Bool.and_eq_true, Bool.or_eq_false_iff, Bool.not_eq_true', Bool.not_eq_false', Int.toNat_natCast] at c3
      refine .skip ?_
      refine .code ?_
      refine .seq ?_
      refine .block ?_
      refine .seq ?_
      refine Wk.rg [0, 1] rfl rfl ?_
      refine mv rfl .no (.u rfl) ?_
      refine asg rfl .no (.u rfl) ?_
      refine .nil ?_
      refine .code ?_
      refine .seq ?_
      refine Wk.draw (mc := ⟨false, false⟩) [0, 1, 2, 3, 4, 5, 6, 7] Fx.mix (by kernel_rfl) ?_
      refine mv rfl .no (.u rfl) ?_
      refine iA rfl .no Fx.ar107 (.u rfl) (.u rfl) (fun _ => by omega) (fun _ => by omega) ?_
      refine ld rfl .no Fx.ag69 (.u rfl) (fun _ => Rd.own (.there .here) (wa_at1 i (by omega) (by omega))) ?_
      refine mv rfl .no (.u rfl) ?_
      refine iA rfl .no Fx.ar107 (.u rfl) (.u rfl) (fun _ => by omega) (fun _ => by omega) ?_
      refine ld rfl .no Fx.ag69 (.u rfl) (fun _ => Rd.own (.there (.there .here)) (wa_at1 i (by omega) (by omega))) ?_
      refine bw (k := .u32) rfl .no rfl (.u rfl) (.u rfl) rfl ?_
      refine asg rfl .no (.u rfl) ?_
      refine .nil ?_
      refine .code ?_
      refine .seq ?_
      refine Wk.rg [0] rfl rfl ?_
      refine mv rfl .no (.u rfl) ?_
      refine .nil ?_
      refine .code ?_
      refine .block ?_
      refine Wk.lop (α := Nat) (fun c => [(12, true, U (chaW key nonce count i >>> (8 * c))), (145, true, .int .i64 (c : Int))]) (fun c => [.blk b10 (cl (ba 64 (outs (chaB key nonce count) (4 * i + c))) 85)])
        (fun c Gl => c ≤ 4) (fun c => 4 - c) 0 [(6, true, _), (7, true, _), (8, true, _), (10, true, _), (11, true, _), (135, true, _)] [.blk b8 _, .blk b7 _, .blk b4 _, .blk b3 _, .blk b6 _]
        (ESub.cons rfl shr_zero' (ESub.cons rfl rfl (ESub.cons rfl rfl (ESub.cons rfl rfl (ESub.cons rfl rfl (ESub.cons rfl rfl (ESub.cons rfl rfl (ESub.cons rfl rfl ESub.nil))))))))
        (MSub.cons .here rfl (MSub.cons .here rfl (MSub.cons .here rfl (MSub.cons .here rfl (MSub.cons .here rfl (MSub.cons .here rfl MSub.nil)))))) ?_ ?_
      · show 0 ≤ 4; omega
      intro c N3 Gl3 hN3 hGl3 hF3
      try dsimp only at hF3 hN3 ⊢
      have hc : c ≤ 4 := hF3
      refine .seq ?_
      refine Wk.rg [0] rfl rfl ?_
      refine cp rfl .no (.u rfl) (.u rfl) rfl ?_
      refine .nil ?_
      refine .code ?_
      refine .seq ?_
      refine .cond rfl (fun c4 => ?_) (fun c4 => ?_)
      · have c4k := c4
        try simp only [decide_eq_true_eq, decide_eq_false_iff_not, Int.not_lt, Int.not_le, gt_iff_lt, ge_iff_le, Bool.or_eq_true, Bool.and_eq_true, Bool.or_eq_false_iff, Bool.not_eq_true', Bool.not_eq_false', Int.toNat_natCast] at c4
        refine .skip ?_
        refine .code ?_
        refine .seq ?_
        refine .block ?_
        refine .seq ?_
        refine Wk.rg [0, 1] rfl rfl ?_
        refine mv rfl .no (.u rfl) ?_
        refine asg rfl .no (.u rfl) ?_
        refine .nil ?_
        refine .code ?_
        refine .seq ?_
        refine Wk.rg [0, 1, 2, 3, 4, 5, 6, 7] rfl rfl ?_
        refine mv rfl .no (.u rfl) ?_
        refine ar rfl .no (.u rfl) (.u rfl) rfl (fun _ => wrap_i64 (by omega) (by omega)) ?_
        refine mv rfl .no (.u rfl) ?_
        refine ar rfl .no (.u rfl) (.u rfl) rfl (fun _ => wrap_i64 (by omega) (by omega)) ?_
        refine mv rfl .no (.u rfl) ?_
        refine cu (k := .u32) rfl .no rfl Fx.cv69_5 (.u rfl) ?_
        refine iA rfl .no Fx.ar85 (.u rfl) (.u rfl) (fun _ => by omega) (fun _ => by omega) ?_
        refine s1 rfl (.u rfl) (.u rfl) rfl Fx.sz5 .here (by rw [ba_len]; omega) (ba_set1 (4 * i + c) (by omega)) ?_
        refine .nil ?_
        refine .code ?_
        refine Wk.rg [0, 1, 2] rfl rfl ?_
        refine mv rfl .no (.u rfl) ?_
        refine rw' (k := .u32) rfl .no (.u rfl) (.u rfl) (fun _ => by decide) ?_
        refine asg rfl .no (.u rfl) ?_
        refine .nil ?_
        refine .blk ?_
        refine .code ?_
        refine Wk.rg [0, 1] rfl rfl ?_
        refine ar rfl .no (.u rfl) (.u rfl) rfl (fun _ => wrap_i64 (by omega) (by omega)) ?_
        refine mv rfl .no (.u rfl) ?_
        refine .nil ?_
        refine We.lpo (c + 1) ?_ ?_ ?_ ?_ ?_
        · exact (ESub.cons rfl shr_next (ESub.cons rfl rfl (ESub.cons rfl rfl (ESub.cons rfl rfl (ESub.cons rfl rfl (ESub.cons rfl rfl (ESub.cons rfl rfl (ESub.cons rfl rfl ESub.nil))))))))
        · exact (MSub.cons .here (out_put (by omega)) (MSub.cons .here rfl (MSub.cons .here rfl (MSub.cons .here rfl (MSub.cons .here rfl (MSub.cons .here rfl MSub.nil))))))
        · first | omega | (dsimp only; omega)
        · exact hGl3
        · show c + 1 ≤ 4; omega
      · have c4k := c4
        try simp only [decide_eq_true_eq, decide_eq_false_iff_not, Int.not_lt, Int.not_le, gt_iff_lt, ge_iff_le, Bool.or_eq_true, Bool.and_eq_true, Bool.or_eq_false_iff, Bool.not_eq_true', Bool.not_eq_false', Int.toNat_natCast] at c4
        refine .exit ?_
        refine .xcode ?_
        refine .xlp ?_
        refine .xblk ?_
        refine .blk ?_
        refine .code ?_
        refine Wk.rg [0, 1] rfl rfl ?_
        refine ar rfl .no (.u rfl) (.u rfl) rfl (fun _ => wrap_i64 (by omega) (by omega)) ?_
        refine mv rfl .no (.u rfl) ?_
        refine .nil ?_
        obtain rfl : c = 4 := by omega
        refine We.lpo (i + 1) ?_ ?_ ?_ ?_ ?_
        · exact (ESub.cons rfl rfl (ESub.cons rfl rfl (ESub.cons rfl rfl (ESub.cons rfl rfl (ESub.cons rfl rfl ESub.nil)))))
        · exact (MSub.cons .here rfl (MSub.cons .here rfl (MSub.cons .here rfl (MSub.cons .here rfl (MSub.cons .here rfl (MSub.cons .here rfl MSub.nil))))))
        · first | omega | (dsimp only; omega)
        · exact hGl2.trans hGl3
        · show i + 1 ≤ 16; omega
    · have c3k := c3
      try simp only [decide_eq_true_eq, decide_eq_false_iff_not, Int.not_lt, Int.not_le, gt_iff_lt, ge_iff_le, Bool.or_eq_true, Bool.and_eq_true, Bool.or_eq_false_iff, Bool.not_eq_true', Bool.not_eq_false', Int.toNat_natCast] at c3
      refine .exit ?_
      refine .xcode ?_
      refine .xlp ?_
      refine .xblk ?_
      refine .code ?_
      refine .seq ?_
      refine Wk.rg [0, 1] rfl rfl ?_
      refine lA rfl .no Fx.ag85 (.u rfl) (fun _ => RdN.own .here) (fun _ => rfl) ?_
      refine sw rfl (.u rfl) (.u rfl) rfl Fx.sz85 (.there (.there (.there (.there (.there .here))))) rfl (ba_one _ _) ?_
      refine .nil ?_
      refine .code ?_
      refine .ret ?_
      refine We.fin0 Tryd.results51 (.cell rfl (fun w hw => run_loadVarN Fx.ag85 (RdN.own .here) rfl hw) .nil) ?_
      obtain rfl : i = 16 := by omega
      exact ⟨rfl, by rw [ba_congr (fun i hi => (outs_eq (chaB key nonce count) hi).symm)]; rfl⟩

end Go.Proofs.YtoogjfldgeiapaaDoor
