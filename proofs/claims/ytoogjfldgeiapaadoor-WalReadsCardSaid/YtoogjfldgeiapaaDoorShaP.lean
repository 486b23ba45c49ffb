/- Contracts of functions, walked. -/
import Derived.Test.YtoogjfldgeiapaaDoorSealR
import Derived.Test.YtoogjfldgeiapaaDoorSealB
namespace Go.Proofs.YtoogjfldgeiapaaDoor
set_option linter.unusedSimpArgs false
set_option linter.unusedVariables false
open Go.Tan Go.RowKit

namespace Fx
theorem zr127 : zrL Tryd.prog 127 = some (wa 64 (fun _ => 0#32)) := by kernel_rfl
theorem ar127 : arE Tryd.prog 127 = some (64, 69, 1) := by kernel_rfl
theorem go90 : goFn Tryd.prog 90 = true := by kernel_rfl
theorem fo114_0 : fOff Tryd.prog 114 0 = some 0 := by kernel_rfl
theorem ar112 : arE Tryd.prog 112 = some (8, 69, 1) := by kernel_rfl
theorem bp112_0_1_2_3_4_5_6_7 : bPl Tryd.prog 112 [0, 1, 2, 3, 4, 5, 6, 7] = some ([.int .u32 0, .int .u32 0, .int .u32 0, .int .u32 0, .int .u32 0, .int .u32 0, .int .u32 0, .int .u32 0], [(0, 1), (1, 1), (2, 1), (3, 1), (4, 1), (5, 1), (6, 1), (7, 1)]) := by kernel_rfl
end Fx
theorem right_ok (x : W) (k : Nat) (G : PM) (hk : k ∈ [2, 6, 7, 11, 13, 17, 18, 19, 22, 25]) : Ct Tryd.prog 90 ([U x, .int .i64 (k : Int)] : List Value).toArray G [] (fun _ μ' u => μ' = [] ∧ u = U (rotr x k)) := by
  refine Ct.of Tryd.func90 rfl Tryd.ntmps90 rfl fun w0 hs0 => ?_
  have hk2 : k ≤ 31 := by simp only [List.mem_cons, List.not_mem_nil, or_false] at hk; omega
  refine .seq ?_
  refine Wk.rg [0] rfl rfl ?_
  refine asg rfl .no (.u rfl) ?_
  refine .nil ?_
  refine .code ?_
  refine .seq ?_
  refine Wk.rg [0, 1, 2, 3, 4] rfl rfl ?_
  refine mv rfl .no (.u rfl) ?_
  refine mv rfl .no (.u rfl) ?_
  refine ng rfl .no (.u rfl) (fun _ => wrap_i64 (by omega) (by omega)) ?_
  refine kv rfl .no Fx.go80 (Eva.cons (.u rfl) (Eva.cons (.u rfl) Eva.nil)) (fun _ => rot_ok _ _ _) ?_
  refine asg rfl .no (.u rfl) ?_
  refine .nil ?_
  refine .code ?_
  refine .ret ?_
  refine We.fin0 Tryd.results90 (.tmp rfl .nil) ?_
  exact ⟨rfl, by rw [← rotI_neg hk]; rfl⟩

set_option maxHeartbeats 1000000 in
theorem block_ok (s : Nat → W) (xs : List Y) (h : Sh) (vp nn : Value) (bs : Nat) (G : PM) (hs : SlR G 1 encY h xs) (hK : RdNP G 1 0 (wa 64 kW)) (hl : 64 ≤ xs.length) : Ct Tryd.prog 85 ([.pointer (some ⟨bs, 0, none⟩), h.val xs.length] : List Value).toArray G [.blk bs (cl (wa 8 s ++ [vp, nn]) 114)] (fun _ μ' u => μ' = [.blk bs (cl (wa 8 (shaC s (fun i => xs.getD i 0)) ++ [vp, nn]) 114)] ∧ u = .tuple #[]) := by
  refine Ct.of Tryd.func85 rfl Tryd.ntmps85 rfl fun w0 hs0 => ?_
  refine .seq ?_
  refine Wk.rg [0] rfl rfl ?_
  refine al rfl Fx.zr127 ?_; intro b4
  refine .nil ?_
  refine .code ?_
  refine .seq ?_
  refine .seq ?_
  refine Wk.rg [0] rfl rfl ?_
  refine mv rfl .no (.u rfl) ?_
  refine .nil ?_
  refine .code ?_
  refine .block ?_
  refine Wk.lop (α := Nat × (Nat → W)) (fun gh => [(24, true, .int .i64 (gh.1 : Int))]) (fun gh => [.blk b4 (cl (wa 64 gh.2) 127)])
    (fun gh Gl => (gh.1 ≤ 16) ∧ (gh.2 = w16 (fun i => xs.getD i 0) gh.1)) (fun gh => 16 - gh.1) (0, fun _ => 0#32) [(0, true, _), (1, true, _), (4, true, _)] [_]
    (ESub.cons rfl (by first | rfl | exact evi (by omega)) (ESub.cons rfl rfl (ESub.cons rfl rfl (ESub.cons rfl rfl ESub.nil))))
    (MSub.cons .here rfl (MSub.cons .here rfl MSub.nil)) ?_ ?_
  · refine ⟨?_, ?_⟩
    · (try dsimp only) <;> (first | omega | rfl | assumption | (simp; done))
    · (try dsimp only) <;> (first | omega | rfl | assumption | (simp; done))
  intro gh N0 Gl0 hN0 hGl0 hF0
  obtain ⟨k, y⟩ := gh; dsimp only at hF0 hN0 ⊢
  obtain ⟨hk, ey⟩ := hF0
  have hs := hs.mono hGl0
  have hK := hK.mono hGl0
  refine .seq ?_
  refine Wk.rg [0] rfl rfl ?_
  refine cp rfl .no (.u rfl) (.u rfl) rfl ?_
  refine .nil ?_
  refine .code ?_
  refine .seq ?_
  refine .cond rfl (fun c1 => ?_) (fun c1 => ?_)
  · have c1k := c1
    try simp only [decide_eq_true_eq, decide_eq_false_iff_not, Int.not_lt, Int.not_le, gt_iff_lt, ge_iff_le, Bool.or_eq_true, Bool.and_eq_true, Bool.or_eq_false_iff, Bool.not_eq_true', Bool.not_eq_false', Int.toNat_natCast, bne_iff_ne, beq_iff_eq, bne_eq_false_iff_eq, beq_eq_false_iff_ne, ne_eq] at c1
    refine .skip ?_
    refine .code ?_
    refine .seq ?_
    refine .block ?_
    refine .seq ?_
    refine Wk.rg [0, 1] rfl rfl ?_
    refine mv rfl .no (.u rfl) ?_
    refine asg rfl .no (.u rfl) ?_
    refine .nil ?_
    refine .code ?_
    refine .seq ?_
    refine Wk.rg [0, 1, 2, 3, 4, 5, 6, 7, 8] rfl rfl ?_
    refine mv rfl .no (.u rfl) ?_
    refine mv rfl .no (.u rfl) ?_
    refine arn (((4 * k) : Nat) : Int) rfl .no (.u rfl) (.u rfl) rfl (fun _ => by omega) (fun _ => wrap_i64 (by omega) (by omega)) ?_
    refine mv rfl .no (.u rfl) ?_
    refine arn (((4 * k) : Nat) : Int) rfl .no (.u rfl) (.u rfl) rfl (fun _ => by omega) (fun _ => wrap_i64 (by omega) (by omega)) ?_
    refine arn ((((4 * k) + 4) : Nat) : Int) rfl .no (.u rfl) (.u rfl) rfl (fun _ => by omega) (fun _ => wrap_i64 (by omega) (by omega)) ?_
    refine kS ((4 * k)) (((4 * k) + 4)) rfl .no Fx.se27 hs (.u rfl) (.u rfl) (.u rfl) (fun _ => by omega) (fun _ => by omega) (fun _ => by omega) (fun _ => by omega) ?_
    intro h33 L33 eL33 lL33 hs33
    have lL33 := lL33 rfl
    refine ln rfl .no Fx.sn27 (.u rfl) ?_
    refine mv rfl .no (.u rfl) ?_
    refine .nil ?_
    refine .code ?_
    refine .block ?_
    refine Wk.lop (α := Nat × (Nat → W)) (fun gh => [(35, true, .int .i64 (gh.1 : Int))]) (fun gh => [.blk b4 (cl (wa 64 gh.2) 127)])
      (fun gh Gl => (gh.1 ≤ 4) ∧ (gh.2 = upd y k (shB (fun i => xs.getD i 0) k gh.1))) (fun gh => 4 - gh.1) (0, y) [(0, true, _), (1, true, _), (4, true, _), (5, true, _), (24, true, _), (33, true, _), (34, true, _)] [_]
      (ESub.cons rfl (by first | rfl | exact evi (by omega)) (ESub.cons rfl rfl (ESub.cons rfl rfl (ESub.cons rfl rfl (ESub.cons rfl rfl (ESub.cons rfl rfl (ESub.cons rfl rfl (ESub.cons rfl rfl ESub.nil))))))))
      (MSub.cons .here rfl (MSub.cons .here rfl MSub.nil)) ?_ ?_
    · refine ⟨?_, ?_⟩
      · (try dsimp only) <;> (first | omega | rfl | assumption | (simp; done))
      · (try dsimp only) <;> (rw [ey]; exact (upd_w16 _ (Nat.le_refl k)).symm)
    intro gh N1 Gl1 hN1 hGl1 hF1
    obtain ⟨c, y2⟩ := gh; dsimp only at hF1 hN1 ⊢
    obtain ⟨hc, ey2⟩ := hF1
    have hs := hs.mono hGl1
    have hK := hK.mono hGl1
    have hs33 := hs33.mono hGl1
    refine .seq ?_
    refine Wk.rg [0] rfl rfl ?_
    refine cp rfl .no (.u rfl) (.u rfl) rfl ?_
    refine .nil ?_
    refine .code ?_
    refine .seq ?_
    refine .cond rfl (fun c2 => ?_) (fun c2 => ?_)
    · have c2k := c2
      try simp only [decide_eq_true_eq, decide_eq_false_iff_not, Int.not_lt, Int.not_le, gt_iff_lt, ge_iff_le, Bool.or_eq_true, Bool.and_eq_true, Bool.or_eq_false_iff, Bool.not_eq_true', Bool.not_eq_false', Int.toNat_natCast, bne_iff_ne, beq_iff_eq, bne_eq_false_iff_eq, beq_eq_false_iff_ne, ne_eq] at c2
      refine .skip ?_
      refine .code ?_
      refine .seq ?_
      refine .block ?_
      refine .seq ?_
      refine Wk.rg [0, 1, 2] rfl rfl ?_
      refine ih rfl .no Fx.se27 (.u rfl) (.u rfl) (fun _ => by omega) (fun _ => by omega) (fun _ => hs33.nn (k := c) (by omega)) ?_
      refine ld rfl .no Fx.ag5 (.u rfl) (fun _ => (hs33.yat (c) (by omega) (by omega)).rd) ?_
      refine asg rfl .no (.u rfl) ?_
      refine .nil ?_
      refine .code ?_
      refine Wk.rg [0, 1, 2, 3, 4, 5, 6, 7, 8, 9] rfl rfl ?_
      refine mv rfl .no (.u rfl) ?_
      refine mv rfl .no (.u rfl) ?_
      refine iA rfl .no Fx.ar127 (.u rfl) (.u rfl) (fun _ => by omega) (fun _ => by omega) ?_
      refine ld rfl .no Fx.ag69 (.u rfl) (fun _ => Rd.own .here (by first | exact wa_at1 (k) (by omega) (by omega) | exact ba_at1 (k) (by omega) (by omega) | exact wap_at1 (k) (by omega) (by omega) | rfl)) ?_
      refine lw (k := .u32) rfl .no rfl (.u rfl) (.u rfl) (fun _ => by decide) ?_
      refine mv rfl .no (.u rfl) ?_
      refine cu (k := .u8) rfl .no rfl Fx.cv5_69 (.u rfl) ?_
      refine bw (k := .u32) rfl .no rfl (.u rfl) (.u rfl) rfl ?_
      refine iA rfl .no Fx.ar127 (.u rfl) (.u rfl) (fun _ => by omega) (fun _ => by omega) ?_
      refine s1 rfl (.u rfl) (.u rfl) rfl Fx.sz69 .here (by first | decide | (simp only [wa_len, ba_len, List.length_append, List.length_cons, List.length_nil]; omega)) (by first | exact wa_set1 (k) (by omega) | exact ba_set1 (k) (by omega) | exact wap_set1 (k) (by omega) (by omega) | rfl) ?_
      refine .nil ?_
      refine .blk ?_
      refine .code ?_
      refine Wk.rg [0, 1] rfl rfl ?_
      refine arn (((c + 1) : Nat) : Int) rfl .no (.u rfl) (.u rfl) rfl (fun _ => by omega) (fun _ => wrap_i64 (by omega) (by omega)) ?_
      refine mv rfl .no (.u rfl) ?_
      refine .nil ?_
      refine We.lpo (c + 1, upd y2 k (y2 k <<< Int.toNat 8 ||| BitVec.setWidth 32 (L33.getD c 0))) ?_ ?_ ?_ ?_ ?_
      · exact (ESub.cons rfl (by first | rfl | exact evi (by omega)) (ESub.cons rfl rfl (ESub.cons rfl rfl (ESub.cons rfl rfl (ESub.cons rfl rfl (ESub.cons rfl rfl (ESub.cons rfl rfl (ESub.cons rfl rfl ESub.nil))))))))
      · exact (MSub.cons .here rfl (MSub.cons .here rfl MSub.nil))
      · first | omega | (dsimp only; omega)
      · exact hGl1
      · refine ⟨?_, ?_⟩
        · (try dsimp only) <;> (first | omega | rfl | assumption | (simp; done))
        · (try dsimp only) <;> (rw [ey2, upd_at, upd_upd, shB, eL33, getD_part (by omega)]; rfl)
    · have c2k := c2
      try simp only [decide_eq_true_eq, decide_eq_false_iff_not, Int.not_lt, Int.not_le, gt_iff_lt, ge_iff_le, Bool.or_eq_true, Bool.and_eq_true, Bool.or_eq_false_iff, Bool.not_eq_true', Bool.not_eq_false', Int.toNat_natCast, bne_iff_ne, beq_iff_eq, bne_eq_false_iff_eq, beq_eq_false_iff_ne, ne_eq] at c2
      refine .exit ?_
      refine .xcode ?_
      refine .xlp ?_
      refine .xblk ?_
      refine .blk ?_
      refine .code ?_
      refine Wk.rg [0, 1] rfl rfl ?_
      refine arn (((k + 1) : Nat) : Int) rfl .no (.u rfl) (.u rfl) rfl (fun _ => by omega) (fun _ => wrap_i64 (by omega) (by omega)) ?_
      refine mv rfl .no (.u rfl) ?_
      refine .nil ?_
      refine We.lpo (k + 1, y2) ?_ ?_ ?_ ?_ ?_
      · exact (ESub.cons rfl (by first | rfl | exact evi (by omega)) (ESub.cons rfl rfl (ESub.cons rfl rfl (ESub.cons rfl rfl ESub.nil))))
      · exact (MSub.cons .here rfl (MSub.cons .here rfl MSub.nil))
      · first | omega | (dsimp only; omega)
      · exact (hGl0).trans hGl1
      · refine ⟨?_, ?_⟩
        · (try dsimp only) <;> (first | omega | rfl | assumption | (simp; done))
        · (try dsimp only) <;> (obtain rfl : c = 4 := (by omega); rw [ey2, ey, shB_four]; rfl)
  · have c1k := c1
    try simp only [decide_eq_true_eq, decide_eq_false_iff_not, Int.not_lt, Int.not_le, gt_iff_lt, ge_iff_le, Bool.or_eq_true, Bool.and_eq_true, Bool.or_eq_false_iff, Bool.not_eq_true', Bool.not_eq_false', Int.toNat_natCast, bne_iff_ne, beq_iff_eq, bne_eq_false_iff_eq, beq_eq_false_iff_ne, ne_eq] at c1
    refine .exit ?_
    refine .xcode ?_
    refine .xlp ?_
    refine .xblk ?_
    refine .code ?_
    refine .seq ?_
    refine .seq ?_
    obtain rfl : k = 16 := by omega
    refine Wk.rg [0] rfl rfl ?_
    refine asg rfl .no (.u rfl) ?_
    refine .nil ?_
    refine .code ?_
    refine .block ?_
    refine Wk.lop (α := Nat × (Nat → W)) (fun gh => [(8, true, .int .i64 ((16 + gh.1 : Nat) : Int))]) (fun gh => [.blk b4 (cl (wa 64 gh.2) 127)])
      (fun gh Gl => (gh.1 ≤ 48) ∧ (gh.2 = sched (fun i => xs.getD i 0) gh.1)) (fun gh => 48 - gh.1) (0, _) [(0, true, _), (4, true, _)] [_]
      (ESub.cons rfl (by first | rfl | exact evi (by omega)) (ESub.cons rfl rfl (ESub.cons rfl rfl ESub.nil)))
      (MSub.cons .here rfl (MSub.cons .here rfl MSub.nil)) ?_ ?_
    · refine ⟨?_, ?_⟩
      · (try dsimp only) <;> (first | omega | rfl | assumption | (simp; done))
      · (try dsimp only) <;> (first | omega | rfl | assumption | (simp; done))
    intro gh N2 Gl2 hN2 hGl2 hF2
    obtain ⟨k1, y⟩ := gh; dsimp only at hF2 hN2 ⊢
    obtain ⟨hk1, ey⟩ := hF2
    have hs := hs.mono hGl2
    have hK := hK.mono hGl2
    refine .seq ?_
    refine .seq ?_
    refine Wk.rg [0, 1] rfl rfl ?_
    refine mv rfl .no (.u rfl) ?_
    refine cp rfl .no (.u rfl) (.u rfl) rfl ?_
    refine .nil ?_
    refine .code ?_
    refine .cond rfl (fun c3 => ?_) (fun c3 => ?_)
    · have c3k := c3
      try simp only [decide_eq_true_eq, decide_eq_false_iff_not, Int.not_lt, Int.not_le, gt_iff_lt, ge_iff_le, Bool.or_eq_true, Bool.and_eq_true, Bool.or_eq_false_iff, Bool.not_eq_true', Bool.not_eq_false', Int.toNat_natCast, bne_iff_ne, beq_iff_eq, bne_eq_false_iff_eq, beq_eq_false_iff_ne, ne_eq] at c3
      refine .skip ?_
      refine .code ?_
      refine .seq ?_
      refine .block ?_
      refine .seq ?_
      refine Wk.draw (mc := ⟨false, false⟩) [0, 1, 2, 3, 4, 5, 6, 7, 8, 9] Fx.mix (by kernel_rfl) ?_
      refine mv rfl .no (.u rfl) ?_
      refine arn (((1 + k1) : Nat) : Int) rfl .no (.u rfl) (.u rfl) rfl (fun _ => by omega) (fun _ => wrap_i64 (by omega) (by omega)) ?_
      refine iA rfl .no Fx.ar127 (.u rfl) (.u rfl) (fun _ => by omega) (fun _ => by omega) ?_
      refine ld rfl .no Fx.ag69 (.u rfl) (fun _ => Rd.own .here (by first | exact wa_at1 ((1 + k1)) (by omega) (by omega) | exact ba_at1 ((1 + k1)) (by omega) (by omega) | exact wap_at1 ((1 + k1)) (by omega) (by omega) | rfl)) ?_
      refine mv rfl .no (.u rfl) ?_
      refine arn (((14 + k1) : Nat) : Int) rfl .no (.u rfl) (.u rfl) rfl (fun _ => by omega) (fun _ => wrap_i64 (by omega) (by omega)) ?_
      refine iA rfl .no Fx.ar127 (.u rfl) (.u rfl) (fun _ => by omega) (fun _ => by omega) ?_
      refine ld rfl .no Fx.ag69 (.u rfl) (fun _ => Rd.own .here (by first | exact wa_at1 ((14 + k1)) (by omega) (by omega) | exact ba_at1 ((14 + k1)) (by omega) (by omega) | exact wap_at1 ((14 + k1)) (by omega) (by omega) | rfl)) ?_
      refine asg rfl .no (.u rfl) ?_
      refine asg rfl .no (.u rfl) ?_
      refine .nil ?_
      refine .code ?_
      refine Wk.draw (mc := ⟨false, false⟩) [0, 1, 2, 3, 4, 5, 6, 7, 8, 9, 10, 12, 15, 16, 19, 21, 24, 25, 11, 13, 14, 17, 18, 20, 22, 23, 26, 27, 28, 29] Fx.mix (by kernel_rfl) ?_
      refine mv rfl .no (.u rfl) ?_
      refine mv rfl .no (.u rfl) ?_
      refine arn ((k1 : Nat) : Int) rfl .no (.u rfl) (.u rfl) rfl (fun _ => by omega) (fun _ => wrap_i64 (by omega) (by omega)) ?_
      refine iA rfl .no Fx.ar127 (.u rfl) (.u rfl) (fun _ => by omega) (fun _ => by omega) ?_
      refine ld rfl .no Fx.ag69 (.u rfl) (fun _ => Rd.own .here (by first | exact wa_at1 (k1) (by omega) (by omega) | exact ba_at1 (k1) (by omega) (by omega) | exact wap_at1 (k1) (by omega) (by omega) | rfl)) ?_
      refine mv rfl .no (.u rfl) ?_
      refine arn (((9 + k1) : Nat) : Int) rfl .no (.u rfl) (.u rfl) rfl (fun _ => by omega) (fun _ => wrap_i64 (by omega) (by omega)) ?_
      refine iA rfl .no Fx.ar127 (.u rfl) (.u rfl) (fun _ => by omega) (fun _ => by omega) ?_
      refine ld rfl .no Fx.ag69 (.u rfl) (fun _ => Rd.own .here (by first | exact wa_at1 ((9 + k1)) (by omega) (by omega) | exact ba_at1 ((9 + k1)) (by omega) (by omega) | exact wap_at1 ((9 + k1)) (by omega) (by omega) | rfl)) ?_
      refine bw (k := .u32) rfl .no rfl (.u rfl) (.u rfl) rfl ?_
      refine mv rfl .no (.u rfl) ?_
      refine mv rfl .no (.u rfl) ?_
      refine mv rfl .no (.u rfl) ?_
      refine rw' (k := .u32) rfl .no (.u rfl) (.u rfl) (fun _ => by decide) ?_
      refine mv rfl .no (.u rfl) ?_
      refine mv rfl .no (.u rfl) ?_
      refine mv rfl .no (.u rfl) ?_
      refine rw' (k := .u32) rfl .no (.u rfl) (.u rfl) (fun _ => by decide) ?_
      refine kv rfl .no Fx.go90 (Eva.cons (.u rfl) (Eva.cons (.u rfl) Eva.nil)) (fun _ => right_ok _ 7 _ (by decide)) ?_
      refine kv rfl .no Fx.go90 (Eva.cons (.u rfl) (Eva.cons (.u rfl) Eva.nil)) (fun _ => right_ok _ 18 _ (by decide)) ?_
      refine bw (k := .u32) rfl .no rfl (.u rfl) (.u rfl) rfl ?_
      refine bw (k := .u32) rfl .no rfl (.u rfl) (.u rfl) rfl ?_
      refine bw (k := .u32) rfl .no rfl (.u rfl) (.u rfl) rfl ?_
      refine kv rfl .no Fx.go90 (Eva.cons (.u rfl) (Eva.cons (.u rfl) Eva.nil)) (fun _ => right_ok _ 17 _ (by decide)) ?_
      refine kv rfl .no Fx.go90 (Eva.cons (.u rfl) (Eva.cons (.u rfl) Eva.nil)) (fun _ => right_ok _ 19 _ (by decide)) ?_
      refine bw (k := .u32) rfl .no rfl (.u rfl) (.u rfl) rfl ?_
      refine bw (k := .u32) rfl .no rfl (.u rfl) (.u rfl) rfl ?_
      refine bw (k := .u32) rfl .no rfl (.u rfl) (.u rfl) rfl ?_
      refine iA rfl .no Fx.ar127 (.u rfl) (.u rfl) (fun _ => by omega) (fun _ => by omega) ?_
      refine s1 rfl (.u rfl) (.u rfl) rfl Fx.sz69 .here (by first | decide | (simp only [wa_len, ba_len, List.length_append, List.length_cons, List.length_nil]; omega)) (by first | exact wa_set1 (((16 + k1 : Nat))) (by omega) | exact ba_set1 (((16 + k1 : Nat))) (by omega) | exact wap_set1 (((16 + k1 : Nat))) (by omega) (by omega) | rfl) ?_
      refine .nil ?_
      refine .blk ?_
      refine .code ?_
      refine Wk.rg [0, 1, 2] rfl rfl ?_
      refine mv rfl .no (.u rfl) ?_
      refine arn (((((16 + k1 : Nat)) + 1) : Nat) : Int) rfl .no (.u rfl) (.u rfl) rfl (fun _ => by omega) (fun _ => wrap_i64 (by omega) (by omega)) ?_
      refine asg rfl .no (.u rfl) ?_
      refine .nil ?_
      refine We.lpo (k1 + 1, _) (ESub.cons rfl (by first | rfl | exact evi (by omega)) (ESub.cons rfl rfl (ESub.cons rfl rfl ESub.nil))) (MSub.cons .here rfl (MSub.cons .here rfl MSub.nil)) ?_ ?_ ?_
      · first | omega | (dsimp only; omega)
      · exact hGl2
      · refine ⟨?_, ?_⟩
        · (try dsimp only) <;> (first | omega | rfl | assumption | (simp; done))
        · (try dsimp only) <;> (rw [ey]; rfl)
    · have c3k := c3
      try simp only [decide_eq_true_eq, decide_eq_false_iff_not, Int.not_lt, Int.not_le, gt_iff_lt, ge_iff_le, Bool.or_eq_true, Bool.and_eq_true, Bool.or_eq_false_iff, Bool.not_eq_true', Bool.not_eq_false', Int.toNat_natCast, bne_iff_ne, beq_iff_eq, bne_eq_false_iff_eq, beq_eq_false_iff_ne, ne_eq] at c3
      refine .exit ?_
      refine .xcode ?_
      refine .xlp ?_
      refine .xblk ?_
      refine .code ?_
      refine .seq ?_
      obtain rfl : k1 = 48 := by omega
      refine Wk.draw (mc := ⟨false, false⟩) [0, 1, 2, 3, 4, 5, 6, 7, 8, 9, 10, 11, 12, 13, 14, 15, 16, 17, 18, 19, 20, 21, 22, 23, 24, 25, 26, 27, 28, 29, 30, 31, 32, 33, 34, 35, 36, 37, 38, 39, 40, 41, 42, 43, 44, 45, 46, 47] Fx.mix (by kernel_rfl) ?_
      refine mv rfl .no (.u rfl) ?_
      refine nc rfl .no (.u rfl) ?_
      refine fz rfl .no Fx.fo114_0 (.u rfl) ?_
      refine iA rfl .no Fx.ar112 (.u rfl) (.u rfl) (fun _ => by decide) (fun _ => by decide) ?_
      refine ld rfl .no Fx.ag69 (.u rfl) (fun _ => Rd.own (.there .here) (by first | exact wa_at1 (0) (by omega) (by omega) | exact ba_at1 (0) (by omega) (by omega) | exact wap_at1 (0) (by omega) (by omega) | rfl)) ?_
      refine mv rfl .no (.u rfl) ?_
      refine nc rfl .no (.u rfl) ?_
      refine fz rfl .no Fx.fo114_0 (.u rfl) ?_
      refine iA rfl .no Fx.ar112 (.u rfl) (.u rfl) (fun _ => by decide) (fun _ => by decide) ?_
      refine ld rfl .no Fx.ag69 (.u rfl) (fun _ => Rd.own (.there .here) (by first | exact wa_at1 (1) (by omega) (by omega) | exact ba_at1 (1) (by omega) (by omega) | exact wap_at1 (1) (by omega) (by omega) | rfl)) ?_
      refine mv rfl .no (.u rfl) ?_
      refine nc rfl .no (.u rfl) ?_
      refine fz rfl .no Fx.fo114_0 (.u rfl) ?_
      refine iA rfl .no Fx.ar112 (.u rfl) (.u rfl) (fun _ => by decide) (fun _ => by decide) ?_
      refine ld rfl .no Fx.ag69 (.u rfl) (fun _ => Rd.own (.there .here) (by first | exact wa_at1 (2) (by omega) (by omega) | exact ba_at1 (2) (by omega) (by omega) | exact wap_at1 (2) (by omega) (by omega) | rfl)) ?_
      refine mv rfl .no (.u rfl) ?_
      refine nc rfl .no (.u rfl) ?_
      refine fz rfl .no Fx.fo114_0 (.u rfl) ?_
      refine iA rfl .no Fx.ar112 (.u rfl) (.u rfl) (fun _ => by decide) (fun _ => by decide) ?_
      refine ld rfl .no Fx.ag69 (.u rfl) (fun _ => Rd.own (.there .here) (by first | exact wa_at1 (3) (by omega) (by omega) | exact ba_at1 (3) (by omega) (by omega) | exact wap_at1 (3) (by omega) (by omega) | rfl)) ?_
      refine mv rfl .no (.u rfl) ?_
      refine nc rfl .no (.u rfl) ?_
      refine fz rfl .no Fx.fo114_0 (.u rfl) ?_
      refine iA rfl .no Fx.ar112 (.u rfl) (.u rfl) (fun _ => by decide) (fun _ => by decide) ?_
      refine ld rfl .no Fx.ag69 (.u rfl) (fun _ => Rd.own (.there .here) (by first | exact wa_at1 (4) (by omega) (by omega) | exact ba_at1 (4) (by omega) (by omega) | exact wap_at1 (4) (by omega) (by omega) | rfl)) ?_
      refine mv rfl .no (.u rfl) ?_
      refine nc rfl .no (.u rfl) ?_
      refine fz rfl .no Fx.fo114_0 (.u rfl) ?_
      refine iA rfl .no Fx.ar112 (.u rfl) (.u rfl) (fun _ => by decide) (fun _ => by decide) ?_
      refine ld rfl .no Fx.ag69 (.u rfl) (fun _ => Rd.own (.there .here) (by first | exact wa_at1 (5) (by omega) (by omega) | exact ba_at1 (5) (by omega) (by omega) | exact wap_at1 (5) (by omega) (by omega) | rfl)) ?_
      refine mv rfl .no (.u rfl) ?_
      refine nc rfl .no (.u rfl) ?_
      refine fz rfl .no Fx.fo114_0 (.u rfl) ?_
      refine iA rfl .no Fx.ar112 (.u rfl) (.u rfl) (fun _ => by decide) (fun _ => by decide) ?_
      refine ld rfl .no Fx.ag69 (.u rfl) (fun _ => Rd.own (.there .here) (by first | exact wa_at1 (6) (by omega) (by omega) | exact ba_at1 (6) (by omega) (by omega) | exact wap_at1 (6) (by omega) (by omega) | rfl)) ?_
      refine mv rfl .no (.u rfl) ?_
      refine nc rfl .no (.u rfl) ?_
      refine fz rfl .no Fx.fo114_0 (.u rfl) ?_
      refine iA rfl .no Fx.ar112 (.u rfl) (.u rfl) (fun _ => by decide) (fun _ => by decide) ?_
      refine ld rfl .no Fx.ag69 (.u rfl) (fun _ => Rd.own (.there .here) (by first | exact wa_at1 (7) (by omega) (by omega) | exact ba_at1 (7) (by omega) (by omega) | exact wap_at1 (7) (by omega) (by omega) | rfl)) ?_
      refine asg rfl .no (.u rfl) ?_
      refine asg rfl .no (.u rfl) ?_
      refine asg rfl .no (.u rfl) ?_
      refine asg rfl .no (.u rfl) ?_
      refine asg rfl .no (.u rfl) ?_
      refine asg rfl .no (.u rfl) ?_
      refine asg rfl .no (.u rfl) ?_
      refine asg rfl .no (.u rfl) ?_
      refine .nil ?_
      refine .code ?_
      refine .seq ?_
      refine .seq ?_
      refine Wk.rg [0] rfl rfl ?_
      refine mv rfl .no (.u rfl) ?_
      refine .nil ?_
      refine .code ?_
      refine .block ?_
      refine Wk.lop (α := Nat × (Nat → W)) (fun gh => [(11, true, U (gh.2 0)), (12, true, U (gh.2 1)), (13, true, U (gh.2 2)), (14, true, U (gh.2 3)), (15, true, U (gh.2 4)), (16, true, U (gh.2 5)), (17, true, U (gh.2 6)), (18, true, U (gh.2 7)), (131, true, .int .i64 (gh.1 : Int))]) (fun _ => [])
        (fun gh Gl => (gh.1 ≤ 64) ∧ (gh.2 = rnds y s gh.1)) (fun gh => 64 - gh.1) (0, s) [(0, true, _), (4, true, _)] [_, _]
        (ESub.cons rfl rfl (ESub.cons rfl rfl (ESub.cons rfl rfl (ESub.cons rfl rfl (ESub.cons rfl rfl (ESub.cons rfl rfl (ESub.cons rfl rfl (ESub.cons rfl rfl (ESub.cons rfl (by first | rfl | exact evi (by omega)) (ESub.cons rfl rfl (ESub.cons rfl rfl ESub.nil)))))))))))
        (MSub.cons .here rfl (MSub.cons .here rfl MSub.nil)) ?_ ?_
      · refine ⟨?_, ?_⟩
        · (try dsimp only) <;> (first | omega | rfl | assumption | (simp; done))
        · (try dsimp only) <;> (first | omega | rfl | assumption | (simp; done))
      intro gh N3 Gl3 hN3 hGl3 hF3
      obtain ⟨k2, x⟩ := gh; dsimp only at hF3 hN3 ⊢
      obtain ⟨hk2, ex⟩ := hF3
      have hs := hs.mono hGl3
      have hK := hK.mono hGl3
      refine .seq ?_
      refine Wk.rg [0] rfl rfl ?_
      refine cp rfl .no (.u rfl) (.u rfl) rfl ?_
      refine .nil ?_
      refine .code ?_
      refine .seq ?_
      refine .cond rfl (fun c4 => ?_) (fun c4 => ?_)
      · have c4k := c4
        try simp only [decide_eq_true_eq, decide_eq_false_iff_not, Int.not_lt, Int.not_le, gt_iff_lt, ge_iff_le, Bool.or_eq_true, Bool.and_eq_true, Bool.or_eq_false_iff, Bool.not_eq_true', Bool.not_eq_false', Int.toNat_natCast, bne_iff_ne, beq_iff_eq, bne_eq_false_iff_eq, beq_eq_false_iff_ne, ne_eq] at c4
        refine .skip ?_
        refine .code ?_
        refine .seq ?_
        refine .block ?_
        refine .seq ?_
        refine Wk.rg [0, 1] rfl rfl ?_
        refine mv rfl .no (.u rfl) ?_
        refine asg rfl .no (.u rfl) ?_
        refine .nil ?_
        refine .code ?_
        refine .seq ?_
        refine Wk.draw (mc := ⟨false, false⟩) [0, 1, 3, 6, 10, 11, 12, 13, 14, 15, 16, 18, 19, 20, 22, 23, 24, 2, 4, 5, 7, 8, 9, 17, 21, 25, 26] Fx.mix (by kernel_rfl) ?_
        refine mv rfl .no (.u rfl) ?_
        refine mv rfl .no (.u rfl) ?_
        refine mv rfl .no (.u rfl) ?_
        refine mv rfl .no (.u rfl) ?_
        refine mv rfl .no (.u rfl) ?_
        refine mv rfl .no (.u rfl) ?_
        refine mv rfl .no (.u rfl) ?_
        refine mv rfl .no (.u rfl) ?_
        refine bw (k := .u32) rfl .no rfl (.u rfl) (.u rfl) rfl ?_
        refine bw (k := .u32) rfl .no rfl (.u rfl) (.u rfl) rfl ?_
        refine bw (k := .u32) rfl .no rfl (.u rfl) (.u rfl) rfl ?_
        refine mv rfl .no (.u rfl) ?_
        refine iA rfl .no Fx.ar127 (.u rfl) (.u rfl) (fun _ => by omega) (fun _ => by omega) ?_
        refine ld rfl .no Fx.ag69 (.u rfl) (fun _ => (hK.wat (k2) (by omega) (by omega)).rd) ?_
        refine mv rfl .no (.u rfl) ?_
        refine iA rfl .no Fx.ar127 (.u rfl) (.u rfl) (fun _ => by omega) (fun _ => by omega) ?_
        refine ld rfl .no Fx.ag69 (.u rfl) (fun _ => Rd.own .here (by first | exact wa_at1 (k2) (by omega) (by omega) | exact ba_at1 (k2) (by omega) (by omega) | exact wap_at1 (k2) (by omega) (by omega) | rfl)) ?_
        refine kv rfl .no Fx.go90 (Eva.cons (.u rfl) (Eva.cons (.u rfl) Eva.nil)) (fun _ => right_ok _ 6 _ (by decide)) ?_
        refine kv rfl .no Fx.go90 (Eva.cons (.u rfl) (Eva.cons (.u rfl) Eva.nil)) (fun _ => right_ok _ 11 _ (by decide)) ?_
        refine bw (k := .u32) rfl .no rfl (.u rfl) (.u rfl) rfl ?_
        refine kv rfl .no Fx.go90 (Eva.cons (.u rfl) (Eva.cons (.u rfl) Eva.nil)) (fun _ => right_ok _ 25 _ (by decide)) ?_
        refine bw (k := .u32) rfl .no rfl (.u rfl) (.u rfl) rfl ?_
        refine bw (k := .u32) rfl .no rfl (.u rfl) (.u rfl) rfl ?_
        refine bw (k := .u32) rfl .no rfl (.u rfl) (.u rfl) rfl ?_
        refine bw (k := .u32) rfl .no rfl (.u rfl) (.u rfl) rfl ?_
        refine bw (k := .u32) rfl .no rfl (.u rfl) (.u rfl) rfl ?_
        refine asg rfl .no (.u rfl) ?_
        refine .nil ?_
        refine .code ?_
        refine .seq ?_
        refine Wk.rg [0, 1, 2, 3, 4, 5, 6, 7, 8, 9, 10, 11, 12, 13, 14, 15, 16, 17, 18] rfl rfl ?_
        refine mv rfl .no (.u rfl) ?_
        refine kv rfl .no Fx.go90 (Eva.cons (.u rfl) (Eva.cons (.u rfl) Eva.nil)) (fun _ => right_ok _ 2 _ (by decide)) ?_
        refine mv rfl .no (.u rfl) ?_
        refine kv rfl .no Fx.go90 (Eva.cons (.u rfl) (Eva.cons (.u rfl) Eva.nil)) (fun _ => right_ok _ 13 _ (by decide)) ?_
        refine bw (k := .u32) rfl .no rfl (.u rfl) (.u rfl) rfl ?_
        refine mv rfl .no (.u rfl) ?_
        refine kv rfl .no Fx.go90 (Eva.cons (.u rfl) (Eva.cons (.u rfl) Eva.nil)) (fun _ => right_ok _ 22 _ (by decide)) ?_
        refine bw (k := .u32) rfl .no rfl (.u rfl) (.u rfl) rfl ?_
        refine mv rfl .no (.u rfl) ?_
        refine mv rfl .no (.u rfl) ?_
        refine bw (k := .u32) rfl .no rfl (.u rfl) (.u rfl) rfl ?_
        refine mv rfl .no (.u rfl) ?_
        refine mv rfl .no (.u rfl) ?_
        refine mv rfl .no (.u rfl) ?_
        refine bw (k := .u32) rfl .no rfl (.u rfl) (.u rfl) rfl ?_
        refine bw (k := .u32) rfl .no rfl (.u rfl) (.u rfl) rfl ?_
        refine bw (k := .u32) rfl .no rfl (.u rfl) (.u rfl) rfl ?_
        refine bw (k := .u32) rfl .no rfl (.u rfl) (.u rfl) rfl ?_
        refine asg rfl .no (.u rfl) ?_
        refine .nil ?_
        refine .code ?_
        refine Wk.rg [0, 1, 2, 3, 4, 5, 6, 7, 8, 9, 10, 11, 12, 13, 14, 15, 16, 17, 18, 19] rfl rfl ?_
        refine mv rfl .no (.u rfl) ?_
        refine mv rfl .no (.u rfl) ?_
        refine bw (k := .u32) rfl .no rfl (.u rfl) (.u rfl) rfl ?_
        refine mv rfl .no (.u rfl) ?_
        refine mv rfl .no (.u rfl) ?_
        refine mv rfl .no (.u rfl) ?_
        refine mv rfl .no (.u rfl) ?_
        refine mv rfl .no (.u rfl) ?_
        refine bw (k := .u32) rfl .no rfl (.u rfl) (.u rfl) rfl ?_
        refine mv rfl .no (.u rfl) ?_
        refine mv rfl .no (.u rfl) ?_
        refine mv rfl .no (.u rfl) ?_
        refine asg rfl .no (.u rfl) ?_
        refine asg rfl .no (.u rfl) ?_
        refine asg rfl .no (.u rfl) ?_
        refine asg rfl .no (.u rfl) ?_
        refine asg rfl .no (.u rfl) ?_
        refine asg rfl .no (.u rfl) ?_
        refine asg rfl .no (.u rfl) ?_
        refine asg rfl .no (.u rfl) ?_
        refine .nil ?_
        refine .blk ?_
        refine .code ?_
        refine Wk.rg [0, 1] rfl rfl ?_
        refine arn (((k2 + 1) : Nat) : Int) rfl .no (.u rfl) (.u rfl) rfl (fun _ => by omega) (fun _ => wrap_i64 (by omega) (by omega)) ?_
        refine mv rfl .no (.u rfl) ?_
        refine .nil ?_
        refine We.lpo (k2 + 1, rndW x (kW k2) (y k2)) ?_ ?_ ?_ ?_ ?_
        · exact (ESub.cons rfl rfl (ESub.cons rfl rfl (ESub.cons rfl rfl (ESub.cons rfl rfl (ESub.cons rfl rfl (ESub.cons rfl rfl (ESub.cons rfl rfl (ESub.cons rfl rfl (ESub.cons rfl (by first | rfl | exact evi (by omega)) (ESub.cons rfl rfl (ESub.cons rfl rfl ESub.nil)))))))))))
        · exact (MSub.cons .here rfl (MSub.cons .here rfl MSub.nil))
        · first | omega | (dsimp only; omega)
        · exact hGl3
        · refine ⟨?_, ?_⟩
          · (try dsimp only) <;> (first | omega | rfl | assumption | (simp; done))
          · (try dsimp only) <;> (rw [ex]; rfl)
      · have c4k := c4
        try simp only [decide_eq_true_eq, decide_eq_false_iff_not, Int.not_lt, Int.not_le, gt_iff_lt, ge_iff_le, Bool.or_eq_true, Bool.and_eq_true, Bool.or_eq_false_iff, Bool.not_eq_true', Bool.not_eq_false', Int.toNat_natCast, bne_iff_ne, beq_iff_eq, bne_eq_false_iff_eq, beq_eq_false_iff_ne, ne_eq] at c4
        refine .exit ?_
        refine .xcode ?_
        refine .xlp ?_
        refine .xblk ?_
        refine .code ?_
        refine .seq ?_
        obtain rfl : k2 = 64 := by omega
        refine Wk.rg [0, 1, 2, 3, 4, 5, 6, 7, 8, 9] rfl rfl ?_
        refine mv rfl .no (.u rfl) ?_
        refine mv rfl .no (.u rfl) ?_
        refine mv rfl .no (.u rfl) ?_
        refine mv rfl .no (.u rfl) ?_
        refine mv rfl .no (.u rfl) ?_
        refine mv rfl .no (.u rfl) ?_
        refine mv rfl .no (.u rfl) ?_
        refine mv rfl .no (.u rfl) ?_
        refine bCe (wa 8 x) rfl .no Fx.bp112_0_1_2_3_4_5_6_7 (.cons (.u rfl) rfl (.cons (.u rfl) rfl (.cons (.u rfl) rfl (.cons (.u rfl) rfl (.cons (.u rfl) rfl (.cons (.u rfl) rfl (.cons (.u rfl) rfl (.cons (.u rfl) rfl .nil)))))))) rfl (by simp [bFold, put, wa, List.range_succ]) ?_
        refine mv rfl .no (.u rfl) ?_
        refine .nil ?_
        refine .code ?_
        refine .block ?_
        refine Wk.lop (α := Nat × (Nat → W)) (fun gh => [(200, true, .int .i64 (gh.1 : Int))]) (fun gh => [.blk bs (cl (wa 8 gh.2 ++ [vp, nn]) 114)])
          (fun gh Gl => (gh.1 ≤ 8) ∧ (gh.2 = fun i => if i < gh.1 then s i + x i else s i)) (fun gh => 8 - gh.1) (0, s) [(0, true, _), (199, true, _)] [_]
          (ESub.cons rfl (by first | rfl | exact evi (by omega)) (ESub.cons rfl rfl (ESub.cons rfl rfl ESub.nil)))
          (MSub.cons (.there .here) rfl (MSub.cons .here rfl MSub.nil)) ?_ ?_
        · refine ⟨?_, ?_⟩
          · (try dsimp only) <;> (first | omega | rfl | assumption | (simp; done))
          · (try dsimp only) <;> (funext i; simp)
        intro gh N4 Gl4 hN4 hGl4 hF4
        obtain ⟨k3, z⟩ := gh; dsimp only at hF4 hN4 ⊢
        obtain ⟨hk3, ez⟩ := hF4
        have hs := hs.mono hGl4
        have hK := hK.mono hGl4
        refine .seq ?_
        refine Wk.rg [0] rfl rfl ?_
        refine cp rfl .no (.u rfl) (.u rfl) rfl ?_
        refine .nil ?_
        refine .code ?_
        refine .seq ?_
        refine .cond rfl (fun c5 => ?_) (fun c5 => ?_)
        · have c5k := c5
          try simp only [decide_eq_true_eq, decide_eq_false_iff_not, Int.not_lt, Int.not_le, gt_iff_lt, ge_iff_le, Bool.or_eq_true, Bool.and_eq_true, Bool.or_eq_false_iff, Bool.not_eq_true', Bool.not_eq_false', Int.toNat_natCast, bne_iff_ne, beq_iff_eq, bne_eq_false_iff_eq, beq_eq_false_iff_ne, ne_eq] at c5
          refine .skip ?_
          refine .code ?_
          refine .seq ?_
          refine .block ?_
          refine .seq ?_
          refine Wk.rg [0, 1, 2, 3] rfl rfl ?_
          refine mv rfl .no (.u rfl) ?_
          refine ix rfl .no Fx.ar112 Fx.ag69 (.u rfl) (.u rfl) (fun _ => by omega) (fun _ => by omega) (fun _ => wa_at (n := 8) (y := x) (j := k3) (by omega)) ?_
          refine asg rfl .no (.u rfl) ?_
          refine asg rfl .no (.u rfl) ?_
          refine .nil ?_
          refine .code ?_
          refine Wk.draw (mc := ⟨false, false⟩) [0, 1, 2, 3, 4, 5, 6, 7, 8, 9, 10, 11] Fx.mix (by kernel_rfl) ?_
          refine mv rfl .no (.u rfl) ?_
          refine mv rfl .no (.u rfl) ?_
          refine nc rfl .no (.u rfl) ?_
          refine fz rfl .no Fx.fo114_0 (.u rfl) ?_
          refine iA rfl .no Fx.ar112 (.u rfl) (.u rfl) (fun _ => by omega) (fun _ => by omega) ?_
          refine ld rfl .no Fx.ag69 (.u rfl) (fun _ => Rd.own .here (by first | exact wa_at1 (k3) (by omega) (by omega) | exact ba_at1 (k3) (by omega) (by omega) | exact wap_at1 (k3) (by omega) (by omega) | rfl)) ?_
          refine mv rfl .no (.u rfl) ?_
          refine bw (k := .u32) rfl .no rfl (.u rfl) (.u rfl) rfl ?_
          refine nc rfl .no (.u rfl) ?_
          refine fz rfl .no Fx.fo114_0 (.u rfl) ?_
          refine iA rfl .no Fx.ar112 (.u rfl) (.u rfl) (fun _ => by omega) (fun _ => by omega) ?_
          refine s1 rfl (.u rfl) (.u rfl) rfl Fx.sz69 .here (by first | decide | (simp only [wa_len, ba_len, List.length_append, List.length_cons, List.length_nil]; omega)) (by first | exact wa_set1 (k3) (by omega) | exact ba_set1 (k3) (by omega) | exact wap_set1 (k3) (by omega) (by omega) | rfl) ?_
          refine .nil ?_
          refine .blk ?_
          refine .code ?_
          refine Wk.rg [0, 1] rfl rfl ?_
          refine arn (((k3 + 1) : Nat) : Int) rfl .no (.u rfl) (.u rfl) rfl (fun _ => by omega) (fun _ => wrap_i64 (by omega) (by omega)) ?_
          refine mv rfl .no (.u rfl) ?_
          refine .nil ?_
          refine We.lpo (k3 + 1, _) (ESub.cons rfl (by first | rfl | exact evi (by omega)) (ESub.cons rfl rfl (ESub.cons rfl rfl ESub.nil))) (MSub.cons .here rfl (MSub.cons .here rfl MSub.nil)) ?_ ?_ ?_
          · first | omega | (dsimp only; omega)
          · exact hGl4
          · refine ⟨?_, ?_⟩
            · (try dsimp only) <;> (first | omega | rfl | assumption | (simp; done))
            · (try dsimp only) <;> (rw [ez]; exact upd_if)
        · have c5k := c5
          try simp only [decide_eq_true_eq, decide_eq_false_iff_not, Int.not_lt, Int.not_le, gt_iff_lt, ge_iff_le, Bool.or_eq_true, Bool.and_eq_true, Bool.or_eq_false_iff, Bool.not_eq_true', Bool.not_eq_false', Int.toNat_natCast, bne_iff_ne, beq_iff_eq, bne_eq_false_iff_eq, beq_eq_false_iff_ne, ne_eq] at c5
          refine .exit ?_
          refine .xcode ?_
          refine .xlp ?_
          refine .xblk ?_
          refine .nil ?_
          refine We.fin Tryd.results85 .nil (MSub.cons .here rfl MSub.nil) ?_
          obtain rfl : k3 = 8 := by omega
          refine ⟨?_, rfl⟩
          rw [ez, ex, ey, wa_congr (f := fun i => if i < 8 then s i + rnds (sched (fun i => xs.getD i 0) 48) s 64 i else s i) (f' := shaC s (fun i => xs.getD i 0)) (fun i hi => by rw [if_pos hi]; rfl)]

end Go.Proofs.YtoogjfldgeiapaaDoor
