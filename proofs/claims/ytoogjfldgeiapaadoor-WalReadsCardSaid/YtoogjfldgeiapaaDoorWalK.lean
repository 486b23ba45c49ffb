/- Contracts of functions, walked. -/
import Derived.Test.YtoogjfldgeiapaaDoorWalZ
import Derived.Test.YtoogjfldgeiapaaDoorWalJ
namespace Go.Proofs.YtoogjfldgeiapaaDoor
set_option linter.unusedSimpArgs false
set_option linter.unusedVariables false
open Go.Tan Go.RowKit

namespace Fx
theorem fo106_2 : fOff Tryd.prog 106 2 = some 2 := by kernel_rfl
theorem fo106_0 : fOff Tryd.prog 106 0 = some 0 := by kernel_rfl
theorem fo106_1 : fOff Tryd.prog 106 1 = some 1 := by kernel_rfl
theorem bp106_0 : bPl Tryd.prog 106 [0] = some ([.slice none 0 0, .int .i64 0, .int .i64 0], [(0, 1)]) := by kernel_rfl
theorem zr106 : zrL Tryd.prog 106 = some ([.slice none 0 0, .int .i64 0, .int .i64 0]) := by kernel_rfl
theorem sz106 : szT Tryd.prog 106 = some 3 := by kernel_rfl
theorem go68 : goFn Tryd.prog 68 = true := by kernel_rfl
theorem go69 : goFn Tryd.prog 69 = true := by kernel_rfl
end Fx
theorem rrdFix_ok (xs : List Y) (s : Sh) (a b : Nat) (G : PM) (hs : SlR G 1 encY s xs) (h8 : a + 8 ≤ xs.length) (hl : xs.length ≤ 100000000000000) : Ct Tryd.prog 68 ([.pointer (some ⟨b, 0, none⟩), .int .i64 ((8 : Nat) : Int)] : List Value).toArray G [.blk b (cl [s.val xs.length, .int .i64 (a : Int), .int .i64 0] 106)] (fun _ μ' u => μ' = [.blk b (cl [s.val xs.length, .int .i64 ((a + 8 : Nat) : Int), .int .i64 0] 106)] ∧ u = uv .u64 (unfK (xs.drop a) 8)) := by
  refine Ct.of Tryd.func68 rfl Tryd.ntmps68 rfl fun w0 hs0 => ?_
  refine .seq ?_
  refine Wk.rg [0] rfl rfl ?_
  refine asg rfl .no (.u rfl) ?_
  refine .nil ?_
  refine .code ?_
  refine .seq ?_
  refine .seq ?_
  refine Wk.rg [0, 1, 2, 3, 4] rfl rfl ?_
  refine mv rfl .no (.u rfl) ?_
  refine nc rfl .no (.u rfl) ?_
  refine fz rfl .no Fx.fo106_2 (.u rfl) ?_
  refine ld rfl .no Fx.ag35 (.u rfl) (fun _ => Rd.own .here (by first | exact wap_f rfl | rfl)) ?_
  refine cp rfl .no (.u rfl) (.u rfl) rfl ?_
  refine .nil ?_
  refine .code ?_
  refine .cond rfl (fun c1 => ?_) (fun c1 => ?_)
  · have c1k := c1
    exact absurd c1 (by decide)
  · have c1k := c1
    try simp only [decide_eq_true_eq, decide_eq_false_iff_not, Int.not_lt, Int.not_le, gt_iff_lt, ge_iff_le, Bool.or_eq_true, Bool.and_eq_true, Bool.or_eq_false_iff, Bool.not_eq_true', Bool.not_eq_false', Int.toNat_natCast, bne_iff_ne, beq_iff_eq, bne_eq_false_iff_eq, beq_eq_false_iff_ne, ne_eq] at c1
    refine .skip ?_
    refine .code ?_
    refine .seq ?_
    refine .seq ?_
    refine Wk.rg [0, 1, 2, 3, 4, 5] rfl rfl ?_
    refine mv rfl .no (.u rfl) ?_
    refine cp rfl .no (.u rfl) (.u rfl) rfl ?_
    refine mv rfl .no (.u rfl) ?_
    refine mv rfl (.f rfl rfl) (.u rfl) ?_
    refine cp rfl (.f rfl rfl) (.s rfl) (.u rfl) rfl ?_
    refine pkO rfl .no (.u rfl) (.s rfl) ?_
    refine .nil ?_
    refine .code ?_
    refine .cond rfl (fun c2 => ?_) (fun c2 => ?_)
    · have c2k := c2
      exact absurd c2 (by decide)
    · have c2k := c2
      try simp only [decide_eq_true_eq, decide_eq_false_iff_not, Int.not_lt, Int.not_le, gt_iff_lt, ge_iff_le, Bool.or_eq_true, Bool.and_eq_true, Bool.or_eq_false_iff, Bool.not_eq_true', Bool.not_eq_false', Int.toNat_natCast, bne_iff_ne, beq_iff_eq, bne_eq_false_iff_eq, beq_eq_false_iff_ne, ne_eq] at c2
      refine .skip ?_
      refine .code ?_
      refine .seq ?_
      refine .seq ?_
      refine Wk.draw (mc := ⟨false, false⟩) [0, 1, 2, 3, 4, 5, 6, 7, 8, 9, 10, 11] Fx.mix (by kernel_rfl) ?_
      refine mv rfl .no (.u rfl) ?_
      refine mv rfl .no (.u rfl) ?_
      refine nc rfl .no (.u rfl) ?_
      refine fz rfl .no Fx.fo106_0 (.u rfl) ?_
      refine ld rfl .no Fx.ag27 (.u rfl) (fun _ => Rd.own .here (by first | exact wap_f rfl | rfl)) ?_
      refine ln rfl .no Fx.sn27 (.u rfl) ?_
      refine mv rfl .no (.u rfl) ?_
      refine nc rfl .no (.u rfl) ?_
      refine fz rfl .no Fx.fo106_1 (.u rfl) ?_
      refine ld rfl .no Fx.ag3 (.u rfl) (fun _ => Rd.own .here (by first | exact wap_f rfl | rfl)) ?_
      refine arn (((xs.length - a) : Nat) : Int) rfl .no (.u rfl) (.u rfl) rfl (fun _ => by omega) (fun _ => wrap_i64 (by omega) (by omega)) ?_
      refine cp rfl .no (.u rfl) (.u rfl) rfl ?_
      refine .nil ?_
      refine .code ?_
      refine .cond rfl (fun c3 => ?_) (fun c3 => ?_)
      · have c3k := c3
        try simp only [decide_eq_true_eq, decide_eq_false_iff_not, Int.not_lt, Int.not_le, gt_iff_lt, ge_iff_le, Bool.or_eq_true, Bool.and_eq_true, Bool.or_eq_false_iff, Bool.not_eq_true', Bool.not_eq_false', Int.toNat_natCast, bne_iff_ne, beq_iff_eq, bne_eq_false_iff_eq, beq_eq_false_iff_ne, ne_eq] at c3
        exfalso; omega
      · have c3k := c3
        try simp only [decide_eq_true_eq, decide_eq_false_iff_not, Int.not_lt, Int.not_le, gt_iff_lt, ge_iff_le, Bool.or_eq_true, Bool.and_eq_true, Bool.or_eq_false_iff, Bool.not_eq_true', Bool.not_eq_false', Int.toNat_natCast, bne_iff_ne, beq_iff_eq, bne_eq_false_iff_eq, beq_eq_false_iff_ne, ne_eq] at c3
        refine .skip ?_
        refine .code ?_
        refine .seq ?_
        refine Wk.rg [0] rfl rfl ?_
        refine asg rfl .no (.u rfl) ?_
        refine .nil ?_
        refine .code ?_
        refine .seq ?_
        refine .seq ?_
        refine Wk.rg [0, 1, 2] rfl rfl ?_
        refine mv rfl .no (.u rfl) ?_
        refine arn ((7 : Nat) : Int) rfl .no (.u rfl) (.u rfl) rfl (fun _ => by omega) (fun _ => wrap_i64 (by omega) (by omega)) ?_
        refine asg rfl .no (.u rfl) ?_
        refine .nil ?_
        refine .code ?_
        refine .block ?_
        refine Wk.lop (α := Nat × BitVec 64) (fun gh => [(5, true, uv .u64 gh.2), (6, true, .int .i64 ((gh.1 : Int) - 1))]) (fun _ => [])
          (fun gh Gl => (gh.1 ≤ 8) ∧ (gh.2 = topW (xs.drop a) (8 - gh.1))) (fun gh => gh.1) (8, 0#64) [(0, true, _), (1, true, _)] [_]
          (ESub.cons rfl rfl (ESub.cons rfl rfl (ESub.cons rfl rfl (ESub.cons rfl rfl ESub.nil))))
          (MSub.cons .here rfl MSub.nil) ?_ ?_
        · refine ⟨?_, ?_⟩
          · (try dsimp only) <;> (first | omega | rfl | assumption | (simp; done))
          · (try dsimp only) <;> (rfl)
        intro gh N0 Gl0 hN0 hGl0 hF0
        obtain ⟨j, m⟩ := gh; dsimp only at hF0 hN0 ⊢
        obtain ⟨hj, em⟩ := hF0
        have hs := hs.mono hGl0
        refine .seq ?_
        refine .seq ?_
        refine Wk.rg [0, 1] rfl rfl ?_
        refine mv rfl .no (.u rfl) ?_
        refine cp rfl .no (.u rfl) (.u rfl) rfl ?_
        refine .nil ?_
        refine .code ?_
        refine .cond rfl (fun c4 => ?_) (fun c4 => ?_)
        · have c4k := c4
          try simp only [decide_eq_true_eq, decide_eq_false_iff_not, Int.not_lt, Int.not_le, gt_iff_lt, ge_iff_le, Bool.or_eq_true, Bool.and_eq_true, Bool.or_eq_false_iff, Bool.not_eq_true', Bool.not_eq_false', Int.toNat_natCast, bne_iff_ne, beq_iff_eq, bne_eq_false_iff_eq, beq_eq_false_iff_ne, ne_eq] at c4
          refine .skip ?_
          refine .code ?_
          refine .seq ?_
          refine .block ?_
          refine Wk.draw (mc := ⟨false, false⟩) [0, 1, 2, 3, 4, 5, 6, 7, 8, 9, 10, 11, 12, 13, 14, 15, 16] Fx.mix (by kernel_rfl) ?_
          refine mv rfl .no (.u rfl) ?_
          refine bw (k := .u64) (b := 256#64) rfl .no rfl (.u rfl) (.u rfl) rfl ?_
          refine mv rfl .no (.u rfl) ?_
          refine nc rfl .no (.u rfl) ?_
          refine fz rfl .no Fx.fo106_0 (.u rfl) ?_
          refine ld rfl .no Fx.ag27 (.u rfl) (fun _ => Rd.own .here (by first | exact wap_f rfl | rfl)) ?_
          refine mv rfl .no (.u rfl) ?_
          refine nc rfl .no (.u rfl) ?_
          refine fz rfl .no Fx.fo106_1 (.u rfl) ?_
          refine ld rfl .no Fx.ag3 (.u rfl) (fun _ => Rd.own .here (by first | exact wap_f rfl | rfl)) ?_
          refine mv rfl .no (.u rfl) ?_
          refine arn (((a + (j - 1)) : Nat) : Int) rfl .no (.u rfl) (.u rfl) rfl (fun _ => by omega) (fun _ => wrap_i64 (by omega) (by omega)) ?_
          refine ih rfl .no Fx.se27 (.u rfl) (.u rfl) (fun _ => by omega) (fun _ => by omega) (fun _ => hs.nn (k := (a + (j - 1))) (by omega)) ?_
          refine ld rfl .no Fx.ag5 (.u rfl) (fun _ => (hs.yat ((a + (j - 1))) (by omega) (by omega)).rd) ?_
          refine cu (k := .u8) rfl .no rfl Fx.cv5_43 (.u rfl) ?_
          refine bw (k := .u64) rfl .no rfl (.u rfl) (.u rfl) rfl ?_
          refine asg rfl .no (.u rfl) ?_
          refine .nil ?_
          refine .blk ?_
          refine .code ?_
          refine Wk.rg [0, 1, 2] rfl rfl ?_
          refine mv rfl .no (.u rfl) ?_
          refine ar rfl .no (.u rfl) (.u rfl) rfl (fun _ => wrap_i64 (by omega) (by omega)) ?_
          refine asg rfl .no (.u rfl) ?_
          refine .nil ?_
          refine We.lpo (j - 1, m * 256#64 + (xs.getD (a + (j - 1)) 0).setWidth 64) ?_ ?_ ?_ ?_ ?_
          · exact (ESub.cons rfl rfl (ESub.cons rfl (evi (by omega)) (ESub.cons rfl rfl (ESub.cons rfl rfl ESub.nil))))
          · exact (MSub.cons .here rfl MSub.nil)
          · first | omega | (dsimp only; omega)
          · exact hGl0
          · refine ⟨?_, ?_⟩
            · (try dsimp only) <;> (first | omega | rfl | assumption | (simp; done))
            · (try dsimp only) <;> (rw [show 8 - (j - 1) = (8 - j) + 1 by omega, topW, ← em, drop_getD, show 7 - (8 - j) = j - 1 by omega])
        · have c4k := c4
          try simp only [decide_eq_true_eq, decide_eq_false_iff_not, Int.not_lt, Int.not_le, gt_iff_lt, ge_iff_le, Bool.or_eq_true, Bool.and_eq_true, Bool.or_eq_false_iff, Bool.not_eq_true', Bool.not_eq_false', Int.toNat_natCast, bne_iff_ne, beq_iff_eq, bne_eq_false_iff_eq, beq_eq_false_iff_ne, ne_eq] at c4
          refine .exit ?_
          refine .xcode ?_
          refine .xlp ?_
          refine .xblk ?_
          refine .code ?_
          refine .seq ?_
          refine Wk.rg [0, 1, 2, 3, 4, 5, 6, 7, 8, 9] rfl rfl ?_
          refine mv rfl .no (.u rfl) ?_
          refine mv rfl .no (.u rfl) ?_
          refine nc rfl .no (.u rfl) ?_
          refine fz rfl .no Fx.fo106_1 (.u rfl) ?_
          refine ld rfl .no Fx.ag3 (.u rfl) (fun _ => Rd.own .here (by first | exact wap_f rfl | rfl)) ?_
          refine mv rfl .no (.u rfl) ?_
          refine arn (((a + 8) : Nat) : Int) rfl .no (.u rfl) (.u rfl) rfl (fun _ => by omega) (fun _ => wrap_i64 (by omega) (by omega)) ?_
          refine nc rfl .no (.u rfl) ?_
          refine fz rfl .no Fx.fo106_1 (.u rfl) ?_
          refine s1 rfl (.u rfl) (.u rfl) rfl Fx.sz3 .here (by first | decide | (simp only [wa_len, ba_len, List.length_append, List.length_cons, List.length_nil]; omega)) (rfl) ?_
          refine .nil ?_
          refine .code ?_
          refine .seq ?_
          refine Wk.rg [0, 1] rfl rfl ?_
          refine mv rfl .no (.u rfl) ?_
          refine asg rfl .no (.u rfl) ?_
          refine .nil ?_
          refine .code ?_
          refine .ret ?_
          refine We.fin Tryd.results68 (.tmp rfl .nil) (MSub.cons .here rfl MSub.nil) ?_
          obtain rfl : j = 0 := by omega
          exact ⟨rfl, by rw [em, ← top_unf]; rfl⟩

theorem rTake_ok (xs : List Y) (h : Sh) (G : PM) (hs : SlR G 1 encY h xs) (hl : xs.length ≤ 100000000000000) : Ct Tryd.prog 49 ([h.val xs.length] : List Value).toArray G [] (fun _ μ' u => μ' = [] ∧ u = .tuple #[.agg (takeH xs).1.cells.toArray, .int .i64 (takeH xs).2]) := by
  refine Ct.of Tryd.func49 rfl Tryd.ntmps49 rfl fun w0 hs0 => ?_
  refine .seq ?_
  refine Wk.rg [0, 1] rfl rfl ?_
  refine al rfl Fx.zr45 ?_; intro b2
  refine asg rfl .no (.u rfl) ?_
  refine .nil ?_
  refine .code ?_
  refine .seq ?_
  refine .seq ?_
  refine Wk.rg [0, 1, 2] rfl rfl ?_
  refine mv rfl .no (.u rfl) ?_
  refine ln rfl .no Fx.sn27 (.u rfl) ?_
  refine cp rfl .no (.u rfl) (.u rfl) rfl ?_
  refine .nil ?_
  refine .code ?_
  refine .cond rfl (fun c1 => ?_) (fun c1 => ?_)
  · have c1k := c1
    try simp only [decide_eq_true_eq, decide_eq_false_iff_not, Int.not_lt, Int.not_le, gt_iff_lt, ge_iff_le, Bool.or_eq_true, Bool.and_eq_true, Bool.or_eq_false_iff, Bool.and_eq_false_iff, Bool.not_eq_true', Bool.not_eq_false', Int.toNat_natCast, bne_iff_ne, beq_iff_eq, bne_eq_false_iff_eq, beq_eq_false_iff_ne, ne_eq] at c1
    refine .seq ?_
    refine Wk.rg [0, 1, 2] rfl rfl ?_
    refine bC rfl .no Fx.bp45_ .nil rfl ?_
    refine sw rfl (.u rfl) (.u rfl) rfl Fx.sz45 .here (by first | exact (ba_len _ _).trans (ba_len _ _).symm | exact (wa_len _ _).trans (wa_len _ _).symm | exact ba_len _ _ | exact wa_len _ _ | rfl | (simp only [wa_len, ba_len, List.length_append, List.length_cons, List.length_nil])) (one5 rfl rfl rfl rfl rfl) ?_
    refine asg rfl .no (.u rfl) ?_
    refine .nil ?_
    refine .code ?_
    refine .ret ?_
    refine We.fin0 Tryd.results49 (.cell rfl (fun w hw => run_loadVarN Fx.ag45 (RdN.own .here) ((by first | exact (ba_len _ _).trans (ba_len _ _).symm | exact (wa_len _ _).trans (wa_len _ _).symm | exact ba_len _ _ | exact wa_len _ _ | rfl | (simp only [wa_len, ba_len, List.length_append, List.length_cons, List.length_nil]))) hw) (.tmp rfl .nil)) ?_
    exact ⟨rfl, by rw [take_short (by omega)]; rfl⟩
  · have c1k := c1
    try simp only [decide_eq_true_eq, decide_eq_false_iff_not, Int.not_lt, Int.not_le, gt_iff_lt, ge_iff_le, Bool.or_eq_true, Bool.and_eq_true, Bool.or_eq_false_iff, Bool.and_eq_false_iff, Bool.not_eq_true', Bool.not_eq_false', Int.toNat_natCast, bne_iff_ne, beq_iff_eq, bne_eq_false_iff_eq, beq_eq_false_iff_ne, ne_eq] at c1
    refine .skip ?_
    refine .code ?_
    refine .seq ?_
    refine Wk.rg [0, 1, 2, 3, 4] rfl rfl ?_
    refine mv rfl .no (.u rfl) ?_
    refine kS (6) (30) rfl .no Fx.se27 hs (.u rfl) (.u rfl) (.u rfl) (fun _ => by omega) (fun _ => by omega) (fun _ => by omega) (fun _ => by omega) ?_
    intro h11 L11 eL11 lL11 hs11
    have lL11 := lL11 rfl
    refine bCe ([h11.val L11.length, .int .i64 0, .int .i64 0]) rfl .no Fx.bp106_0 (.cons (.u rfl) rfl .nil) rfl (rfl) ?_
    refine al rfl Fx.zr106 ?_; intro b4
    refine sw rfl (.u rfl) (.u rfl) rfl Fx.sz106 .here (by first | exact (ba_len _ _).trans (ba_len _ _).symm | exact (wa_len _ _).trans (wa_len _ _).symm | exact ba_len _ _ | exact wa_len _ _ | rfl | (simp only [wa_len, ba_len, List.length_append, List.length_cons, List.length_nil])) (one3 rfl rfl rfl) ?_
    refine .nil ?_
    refine .code ?_
    refine .seq ?_
    refine Wk.draw (mc := ⟨false, false⟩) [0, 1, 2, 3, 4, 5, 6, 7, 8] Fx.mix (by kernel_rfl) ?_
    refine mv rfl .no (.u rfl) ?_
    refine ih rfl .no Fx.se27 (.u rfl) (.u rfl) (fun _ => by omega) (fun _ => by omega) (fun _ => hs.nn (k := 4) (by omega)) ?_
    refine ld rfl .no Fx.ag5 (.u rfl) (fun _ => (hs.yat (4) (by omega) (by omega)).rd) ?_
    refine mv rfl .no (.u rfl) ?_
    refine ih rfl .no Fx.se27 (.u rfl) (.u rfl) (fun _ => by omega) (fun _ => by omega) (fun _ => hs.nn (k := 5) (by omega)) ?_
    refine ld rfl .no Fx.ag5 (.u rfl) (fun _ => (hs.yat (5) (by omega) (by omega)).rd) ?_
    refine bCe ([V (xs.getD 4 0), V (xs.getD 5 0), uv .u64 0#64, uv .u64 0#64, uv .u64 0#64]) rfl .no Fx.bp45_0_1 (.cons (.u rfl) rfl (.cons (.u rfl) rfl .nil)) rfl (rfl) ?_
    refine al rfl Fx.zr45 ?_; intro b5
    refine sw rfl (.u rfl) (.u rfl) rfl Fx.sz45 .here (by first | exact (ba_len _ _).trans (ba_len _ _).symm | exact (wa_len _ _).trans (wa_len _ _).symm | exact ba_len _ _ | exact wa_len _ _ | rfl | (simp only [wa_len, ba_len, List.length_append, List.length_cons, List.length_nil])) (one5 rfl rfl rfl rfl rfl) ?_
    refine .nil ?_
    refine .code ?_
    refine .seq ?_
    refine Wk.rg [0, 1, 2] rfl rfl ?_
    refine ka rfl (.inr rfl) Fx.go68 (Eva.cons (.u rfl) (Eva.cons (.u rfl) Eva.nil)) (mtk1 (.there .here)) (rrdFix_ok L11 h11 0 _ _ hs11 (by omega) (by omega)) ?_
    rintro _ G20 μ20 hG20 ⟨rfl, rfl⟩
    have hs := hs.mono hG20
    have hs11 := hs11.mono hG20
    refine fz rfl .no Fx.fo45_2 (.u rfl) ?_
    refine s1 rfl (.u rfl) (.u rfl) rfl Fx.sz43 (.there .here) (show 2 < 5 by decide) (rfl) ?_
    refine .nil ?_
    refine .code ?_
    refine .seq ?_
    refine Wk.rg [0, 1, 2] rfl rfl ?_
    refine ka rfl (.inr rfl) Fx.go68 (Eva.cons (.u rfl) (Eva.cons (.u rfl) Eva.nil)) (mtk1 (.there .here)) (rrdFix_ok L11 h11 8 _ _ hs11 (by omega) (by omega)) ?_
    rintro _ G22 μ22 hG22 ⟨rfl, rfl⟩
    have hs := hs.mono hG22
    have hs11 := hs11.mono hG22
    refine fz rfl .no Fx.fo45_3 (.u rfl) ?_
    refine s1 rfl (.u rfl) (.u rfl) rfl Fx.sz43 (.there .here) (show 3 < 5 by decide) (rfl) ?_
    refine .nil ?_
    refine .code ?_
    refine .seq ?_
    refine Wk.rg [0, 1, 2] rfl rfl ?_
    refine ka rfl (.inr rfl) Fx.go68 (Eva.cons (.u rfl) (Eva.cons (.u rfl) Eva.nil)) (mtk1 (.there .here)) (rrdFix_ok L11 h11 16 _ _ hs11 (by omega) (by omega)) ?_
    rintro _ G24 μ24 hG24 ⟨rfl, rfl⟩
    have hs := hs.mono hG24
    have hs11 := hs11.mono hG24
    refine fz rfl .no Fx.fo45_4 (.u rfl) ?_
    refine s1 rfl (.u rfl) (.u rfl) rfl Fx.sz43 (.there .here) (show 4 < 5 by decide) (rfl) ?_
    refine .nil ?_
    refine .code ?_
    refine .seq ?_
    refine .seq ?_
    by_cases hr : Hd.right ⟨xs.getD 4 0, xs.getD 5 0, unfK (L11.drop 0) 8, unfK (L11.drop 8) 8, unfK (L11.drop 16) 8⟩ = true
    · refine Wk.draw (mc := ⟨false, false⟩) [0, 1, 2, 3, 4, 7, 8, 9, 5, 6, 10, 11] Fx.mix (by kernel_rfl) ?_
      refine lA rfl .no Fx.ag45 (.u rfl) (fun _ => RdN.own .here) (fun _ => (by first | exact (ba_len _ _).trans (ba_len _ _).symm | exact (wa_len _ _).trans (wa_len _ _).symm | exact ba_len _ _ | exact wa_len _ _ | rfl | (simp only [wa_len, ba_len, List.length_append, List.length_cons, List.length_nil]))) ?_
      refine kv rfl .no Fx.go69 (Eva.cons (.u rfl) Eva.nil) (fun _ => rnRight_ok ⟨xs.getD 4 0, xs.getD 5 0, unfK (L11.drop 0) 8, unfK (L11.drop 8) 8, unfK (L11.drop 16) 8⟩ _) ?_
      refine wo_b true (hr) ?_
      refine nt rfl .no (.u rfl) ?_
      refine mv rfl .no (.u rfl) ?_
      refine lA rfl (Gd.f (b := false) rfl rfl) Fx.ag45 (.u rfl) (fun _ => RdN.own .here) (fun _ => (by first | exact (ba_len _ _).trans (ba_len _ _).symm | exact (wa_len _ _).trans (wa_len _ _).symm | exact ba_len _ _ | exact wa_len _ _ | rfl | (simp only [wa_len, ba_len, List.length_append, List.length_cons, List.length_nil]))) ?_
      refine mv rfl (Gd.f (b := false) rfl rfl) (.u rfl) ?_
      refine kE (30) rfl (Gd.f (b := false) rfl rfl) Fx.se27 hs (.u rfl) (.u rfl) (fun _ => by omega) (fun _ => by omega) ?_
      intro h34 L34 eL34 lL34 hs34
      have lL34 := lL34 rfl
      refine sB rfl (Gd.f (b := false) rfl rfl) Fx.bs27_9 (.u rfl) (fun _ => hs34.sc) ?_
      refine kcg rfl (Gd.f (b := false) rfl rfl) Fx.go44 (Eva.cons (.u rfl) Eva.nil) (Ct.frzB (rnLay_ok ⟨xs.getD 4 0, xs.getD 5 0, unfK (L11.drop 0) 8, unfK (L11.drop 8) 8, unfK (L11.drop 16) 8⟩ _)) ?_
      rintro _ G31 μ31 hG31 ⟨h31, L31, eL31, rfl, rfl, hs31⟩
      have hs := hs.mono hG31
      have hs11 := hs11.mono hG31
      have hs34 := hs34.mono hG31
      refine sB rfl (Gd.f (b := false) rfl rfl) Fx.bs27_9 (.u rfl) (fun _ => hs31.sc) ?_
      refine cbn rfl (Gd.f (b := false) rfl rfl) (.u rfl) (.u rfl) ?_
      refine pkO rfl .no (.u rfl) (.u rfl) ?_
      refine .nil ?_
      refine .code ?_
      refine .cond rfl (fun c2 => ?_) (fun c2 => ?_)
      · have c2k := c2
        try simp only [decide_eq_true_eq, decide_eq_false_iff_not, Int.not_lt, Int.not_le, gt_iff_lt, ge_iff_le, Bool.or_eq_true, Bool.and_eq_true, Bool.or_eq_false_iff, Bool.and_eq_false_iff, Bool.not_eq_true', Bool.not_eq_false', Int.toNat_natCast, bne_iff_ne, beq_iff_eq, bne_eq_false_iff_eq, beq_eq_false_iff_ne, ne_eq] at c2
        refine .seq ?_
        refine Wk.rg [0, 1, 2] rfl rfl ?_
        refine bC rfl .no Fx.bp45_ .nil rfl ?_
        refine sw rfl (.u rfl) (.u rfl) rfl Fx.sz45 (.there (.there .here)) (by first | exact (ba_len _ _).trans (ba_len _ _).symm | exact (wa_len _ _).trans (wa_len _ _).symm | exact ba_len _ _ | exact wa_len _ _ | rfl | (simp only [wa_len, ba_len, List.length_append, List.length_cons, List.length_nil])) (one5 rfl rfl rfl rfl rfl) ?_
        refine asg rfl .no (.u rfl) ?_
        refine .nil ?_
        refine .code ?_
        refine .ret ?_
        refine We.fin0 Tryd.results49 (.cell rfl (fun w hw => run_loadVarN Fx.ag45 (RdN.own .here) ((by first | exact (ba_len _ _).trans (ba_len _ _).symm | exact (wa_len _ _).trans (wa_len _ _).symm | exact ba_len _ _ | exact wa_len _ _ | rfl | (simp only [wa_len, ba_len, List.length_append, List.length_cons, List.length_nil]))) hw) (.tmp rfl .nil)) ?_
        have c2k : ¬ L31 = L34 := by simpa using c2k
        rw [head_ref eL11] at eL31
        exact ⟨rfl, by rw [take_bad (by omega) (fun hq => c2k (by rw [eL31, eL34]; exact (head_iff (by omega)).2 hq.1))]; rfl⟩
      · have c2k := c2
        try simp only [decide_eq_true_eq, decide_eq_false_iff_not, Int.not_lt, Int.not_le, gt_iff_lt, ge_iff_le, Bool.or_eq_true, Bool.and_eq_true, Bool.or_eq_false_iff, Bool.and_eq_false_iff, Bool.not_eq_true', Bool.not_eq_false', Int.toNat_natCast, bne_iff_ne, beq_iff_eq, bne_eq_false_iff_eq, beq_eq_false_iff_ne, ne_eq] at c2
        refine .skip ?_
        refine .code ?_
        refine .seq ?_
        refine Wk.rg [0, 1, 2] rfl rfl ?_
        refine lA rfl .no Fx.ag45 (.u rfl) (fun _ => RdN.own .here) (fun _ => (by first | exact (ba_len _ _).trans (ba_len _ _).symm | exact (wa_len _ _).trans (wa_len _ _).symm | exact ba_len _ _ | exact wa_len _ _ | rfl | (simp only [wa_len, ba_len, List.length_append, List.length_cons, List.length_nil]))) ?_
        refine sw rfl (.u rfl) (.u rfl) rfl Fx.sz45 (.there (.there .here)) (by first | exact (ba_len _ _).trans (ba_len _ _).symm | exact (wa_len _ _).trans (wa_len _ _).symm | exact ba_len _ _ | exact wa_len _ _ | rfl | (simp only [wa_len, ba_len, List.length_append, List.length_cons, List.length_nil])) (one5 rfl rfl rfl rfl rfl) ?_
        refine asg rfl .no (.u rfl) ?_
        refine .nil ?_
        refine .code ?_
        refine .ret ?_
        refine We.fin0 Tryd.results49 (.cell rfl (fun w hw => run_loadVarN Fx.ag45 (RdN.own .here) ((by first | exact (ba_len _ _).trans (ba_len _ _).symm | exact (wa_len _ _).trans (wa_len _ _).symm | exact ba_len _ _ | exact wa_len _ _ | rfl | (simp only [wa_len, ba_len, List.length_append, List.length_cons, List.length_nil]))) hw) (.tmp rfl .nil)) ?_
        have c2k : L31 = L34 := by simpa using c2k
        rw [head_ref eL11] at eL31 hr
        exact ⟨rfl, by rw [take_good (by omega) ⟨(head_iff (by omega)).1 (by rw [← eL31, ← eL34]; exact c2k), hr⟩, ← head_ref eL11]; rfl⟩
    · refine Wk.draw (mc := ⟨false, false⟩) [0, 1, 2, 3, 4, 7, 8, 9, 5, 6, 10, 11] Fx.mix (by kernel_rfl) ?_
      refine lA rfl .no Fx.ag45 (.u rfl) (fun _ => RdN.own .here) (fun _ => (by first | exact (ba_len _ _).trans (ba_len _ _).symm | exact (wa_len _ _).trans (wa_len _ _).symm | exact ba_len _ _ | exact wa_len _ _ | rfl | (simp only [wa_len, ba_len, List.length_append, List.length_cons, List.length_nil]))) ?_
      refine kv rfl .no Fx.go69 (Eva.cons (.u rfl) Eva.nil) (fun _ => rnRight_ok ⟨xs.getD 4 0, xs.getD 5 0, unfK (L11.drop 0) 8, unfK (L11.drop 8) 8, unfK (L11.drop 16) 8⟩ _) ?_
      refine wo_b false (by simpa using hr) ?_
      refine nt rfl .no (.u rfl) ?_
      refine mv rfl .no (.u rfl) ?_
      refine skr (.bool false) rfl rfl (Gd.f (b := true) rfl rfl) ?_
      refine skp (.bool false) rfl rfl (Gd.f (b := true) rfl rfl) ?_
      refine skp (.bool false) rfl rfl (Gd.f (b := true) rfl rfl) ?_
      refine skr (.bool false) rfl rfl (Gd.f (b := true) rfl rfl) ?_
      refine skc (.bool false) rfl rfl (Gd.f (b := true) rfl rfl) ?_
      refine skr (.bool false) rfl rfl (Gd.f (b := true) rfl rfl) ?_
      refine skp (.bool false) rfl rfl (Gd.f (b := true) rfl rfl) ?_
      refine pkO rfl .no (.u rfl) (.s rfl) ?_
      refine .nil ?_
      refine .code ?_
      refine Wk.condT rfl rfl ?_
      refine .seq ?_
      refine Wk.rg [0, 1, 2] rfl rfl ?_
      refine bC rfl .no Fx.bp45_ .nil rfl ?_
      refine sw rfl (.u rfl) (.u rfl) rfl Fx.sz45 (.there (.there .here)) (by first | exact (ba_len _ _).trans (ba_len _ _).symm | exact (wa_len _ _).trans (wa_len _ _).symm | exact ba_len _ _ | exact wa_len _ _ | rfl | (simp only [wa_len, ba_len, List.length_append, List.length_cons, List.length_nil])) (one5 rfl rfl rfl rfl rfl) ?_
      refine asg rfl .no (.u rfl) ?_
      refine .nil ?_
      refine .code ?_
      refine .ret ?_
      refine We.fin0 Tryd.results49 (.cell rfl (fun w hw => run_loadVarN Fx.ag45 (RdN.own .here) ((by first | exact (ba_len _ _).trans (ba_len _ _).symm | exact (wa_len _ _).trans (wa_len _ _).symm | exact ba_len _ _ | exact wa_len _ _ | rfl | (simp only [wa_len, ba_len, List.length_append, List.length_cons, List.length_nil]))) hw) (.tmp rfl .nil)) ?_
      rw [head_ref eL11] at hr
      exact ⟨rfl, by rw [take_bad (by omega) (fun hq => hr hq.2)]; rfl⟩

theorem wrong_ok (kind : Y) (n : Nat) (b : Bool) (G : PM) : Ct Tryd.prog 50 ([V kind, .int .i64 (n : Int), .bool b] : List Value).toArray G [] (fun _ μ' u => μ' = [] ∧ u = .bool (wrongP kind n b)) := by
  refine Ct.of Tryd.func50 rfl Tryd.ntmps50 rfl fun w0 hs0 => ?_
  refine .seq ?_
  refine Wk.rg [0] rfl rfl ?_
  refine asg rfl .no (.u rfl) ?_
  refine .nil ?_
  refine .code ?_
  refine .seq ?_
  refine .seq ?_
  refine Wk.rg [0] rfl rfl ?_
  refine mv rfl .no (.u rfl) ?_
  refine .nil ?_
  refine .code ?_
  refine .block ?_
  refine .seq ?_
  refine Wk.rg [0, 1] rfl rfl ?_
  refine cp rfl .no (.u rfl) (.u rfl) rfl ?_
  refine asg rfl .no (.u rfl) ?_
  refine .nil ?_
  refine .code ?_
  refine .cond rfl (fun c1 => ?_) (fun c1 => ?_)
  · have c1k := c1
    try simp only [decide_eq_true_eq, decide_eq_false_iff_not, Int.not_lt, Int.not_le, gt_iff_lt, ge_iff_le, Bool.or_eq_true, Bool.and_eq_true, Bool.or_eq_false_iff, Bool.and_eq_false_iff, Bool.not_eq_true', Bool.not_eq_false', Int.toNat_natCast, bne_iff_ne, beq_iff_eq, bne_eq_false_iff_eq, beq_eq_false_iff_ne, ne_eq] at c1
    refine .seq ?_
    refine Wk.rg [0, 1] rfl rfl ?_
    refine mv rfl .no (.u rfl) ?_
    refine asg rfl .no (.u rfl) ?_
    refine .nil ?_
    refine .code ?_
    refine .ret ?_
    refine We.fin0 Tryd.results50 (.tmp rfl .nil) ?_
    exact ⟨rfl, by rw [show wrongP kind n b = b by rw [(byte_eq (n := 1) (by decide)).1 c1]; rfl]; rfl⟩
  · have c1k := c1
    try simp only [decide_eq_true_eq, decide_eq_false_iff_not, Int.not_lt, Int.not_le, gt_iff_lt, ge_iff_le, Bool.or_eq_true, Bool.and_eq_true, Bool.or_eq_false_iff, Bool.and_eq_false_iff, Bool.not_eq_true', Bool.not_eq_false', Int.toNat_natCast, bne_iff_ne, beq_iff_eq, bne_eq_false_iff_eq, beq_eq_false_iff_ne, ne_eq] at c1
    refine .seq ?_
    refine Wk.rg [0, 1] rfl rfl ?_
    refine cp rfl .no (.u rfl) (.u rfl) rfl ?_
    refine asg rfl .no (.u rfl) ?_
    refine .nil ?_
    refine .code ?_
    refine .cond rfl (fun c2 => ?_) (fun c2 => ?_)
    · have c2k := c2
      try simp only [decide_eq_true_eq, decide_eq_false_iff_not, Int.not_lt, Int.not_le, gt_iff_lt, ge_iff_le, Bool.or_eq_true, Bool.and_eq_true, Bool.or_eq_false_iff, Bool.and_eq_false_iff, Bool.not_eq_true', Bool.not_eq_false', Int.toNat_natCast, bne_iff_ne, beq_iff_eq, bne_eq_false_iff_eq, beq_eq_false_iff_ne, ne_eq] at c2
      refine .seq ?_
      refine Wk.rg [0, 1, 2, 3, 4, 5] rfl rfl ?_
      refine mv rfl .no (.u rfl) ?_
      refine mv rfl .no (.u rfl) ?_
      refine mv rfl (.f rfl rfl) (.u rfl) ?_
      refine cp rfl (.f rfl rfl) (.s rfl) (.u rfl) rfl ?_
      refine pkO rfl .no (.u rfl) (.s rfl) ?_
      refine asg rfl .no (.u rfl) ?_
      refine .nil ?_
      refine .code ?_
      refine .ret ?_
      refine We.fin0 Tryd.results50 (.tmp rfl .nil) ?_
      refine ⟨rfl, congrArg Value.bool ?_⟩
      rw [(byte_eq (n := 2) (by decide)).1 c2, dec128]; simp [wrongP]
    · have c2k := c2
      try simp only [decide_eq_true_eq, decide_eq_false_iff_not, Int.not_lt, Int.not_le, gt_iff_lt, ge_iff_le, Bool.or_eq_true, Bool.and_eq_true, Bool.or_eq_false_iff, Bool.and_eq_false_iff, Bool.not_eq_true', Bool.not_eq_false', Int.toNat_natCast, bne_iff_ne, beq_iff_eq, bne_eq_false_iff_eq, beq_eq_false_iff_ne, ne_eq] at c2
      refine .seq ?_
      refine Wk.rg [0, 1] rfl rfl ?_
      refine cp rfl .no (.u rfl) (.u rfl) rfl ?_
      refine asg rfl .no (.u rfl) ?_
      refine .nil ?_
      refine .code ?_
      refine .cond rfl (fun c3 => ?_) (fun c3 => ?_)
      · have c3k := c3
        try simp only [decide_eq_true_eq, decide_eq_false_iff_not, Int.not_lt, Int.not_le, gt_iff_lt, ge_iff_le, Bool.or_eq_true, Bool.and_eq_true, Bool.or_eq_false_iff, Bool.and_eq_false_iff, Bool.not_eq_true', Bool.not_eq_false', Int.toNat_natCast, bne_iff_ne, beq_iff_eq, bne_eq_false_iff_eq, beq_eq_false_iff_ne, ne_eq] at c3
        refine .seq ?_
        refine Wk.rg [0, 1, 2, 3, 4, 5, 6] rfl rfl ?_
        refine mv rfl .no (.u rfl) ?_
        refine nt rfl .no (.u rfl) ?_
        refine mv rfl .no (.u rfl) ?_
        refine mv rfl (.f rfl rfl) (.u rfl) ?_
        refine cp rfl (.f rfl rfl) (.s rfl) (.u rfl) rfl ?_
        refine pkO rfl .no (.u rfl) (.s rfl) ?_
        refine asg rfl .no (.u rfl) ?_
        refine .nil ?_
        refine .code ?_
        refine .ret ?_
        refine We.fin0 Tryd.results50 (.tmp rfl .nil) ?_
        refine ⟨rfl, congrArg Value.bool ?_⟩
        rw [(byte_eq (n := 3) (by decide)).1 c3, dec128]; simp [wrongP]
      · have c3k := c3
        try simp only [decide_eq_true_eq, decide_eq_false_iff_not, Int.not_lt, Int.not_le, gt_iff_lt, ge_iff_le, Bool.or_eq_true, Bool.and_eq_true, Bool.or_eq_false_iff, Bool.and_eq_false_iff, Bool.not_eq_true', Bool.not_eq_false', Int.toNat_natCast, bne_iff_ne, beq_iff_eq, bne_eq_false_iff_eq, beq_eq_false_iff_ne, ne_eq] at c3
        refine .seq ?_
        refine Wk.rg [0, 1] rfl rfl ?_
        refine cp rfl .no (.u rfl) (.u rfl) rfl ?_
        refine asg rfl .no (.u rfl) ?_
        refine .nil ?_
        refine .code ?_
        refine .cond rfl (fun c4 => ?_) (fun c4 => ?_)
        · have c4k := c4
          try simp only [decide_eq_true_eq, decide_eq_false_iff_not, Int.not_lt, Int.not_le, gt_iff_lt, ge_iff_le, Bool.or_eq_true, Bool.and_eq_true, Bool.or_eq_false_iff, Bool.and_eq_false_iff, Bool.not_eq_true', Bool.not_eq_false', Int.toNat_natCast, bne_iff_ne, beq_iff_eq, bne_eq_false_iff_eq, beq_eq_false_iff_ne, ne_eq] at c4
          refine .seq ?_
          refine Wk.rg [0, 1, 2] rfl rfl ?_
          refine mv rfl .no (.u rfl) ?_
          refine nt rfl .no (.u rfl) ?_
          refine asg rfl .no (.u rfl) ?_
          refine .nil ?_
          refine .code ?_
          refine .ret ?_
          refine We.fin0 Tryd.results50 (.tmp rfl .nil) ?_
          exact ⟨rfl, by rw [show wrongP kind n b = !b by rw [(byte_eq (n := 4) (by decide)).1 c4]; rfl]; rfl⟩
        · have c4k := c4
          try simp only [decide_eq_true_eq, decide_eq_false_iff_not, Int.not_lt, Int.not_le, gt_iff_lt, ge_iff_le, Bool.or_eq_true, Bool.and_eq_true, Bool.or_eq_false_iff, Bool.and_eq_false_iff, Bool.not_eq_true', Bool.not_eq_false', Int.toNat_natCast, bne_iff_ne, beq_iff_eq, bne_eq_false_iff_eq, beq_eq_false_iff_ne, ne_eq] at c4
          refine .skip ?_
          refine .blk ?_
          refine .code ?_
          refine .seq ?_
          refine Wk.rg [0] rfl rfl ?_
          refine asg rfl .no (.u rfl) ?_
          refine .nil ?_
          refine .code ?_
          refine .ret ?_
          refine We.fin0 Tryd.results50 (.tmp rfl .nil) ?_
          exact ⟨rfl, by rw [wrong_eq kind n b (fun e => c1 ((byte_eq (n := 1) (by decide)).2 e)) (fun e => c2 ((byte_eq (n := 2) (by decide)).2 e)) (fun e => c3 ((byte_eq (n := 3) (by decide)).2 e)) (fun e => c4 ((byte_eq (n := 4) (by decide)).2 e))]; rfl⟩

end Go.Proofs.YtoogjfldgeiapaaDoor
