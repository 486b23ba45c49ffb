/- Contracts of functions, walked. -/
import Derived.Test.YtoogjfldgeiapaaDoorWalU
namespace Go.Proofs.YtoogjfldgeiapaaDoor
set_option linter.unusedSimpArgs false
set_option linter.unusedVariables false
open Go.Tan Go.RowKit

namespace Fx
theorem zr45 : zrL Tryd.prog 45 = some ([V 0#8, V 0#8, uv .u64 0#64, uv .u64 0#64, uv .u64 0#64]) := by kernel_rfl
theorem bp45_ : bPl Tryd.prog 45 [] = some ([V 0#8, V 0#8, uv .u64 0#64, uv .u64 0#64, uv .u64 0#64], []) := by kernel_rfl
theorem sz45 : szT Tryd.prog 45 = some 5 := by kernel_rfl
theorem go66 : goFn Tryd.prog 66 = true := by kernel_rfl
theorem bp45_0_1 : bPl Tryd.prog 45 [0, 1] = some ([V 0#8, V 0#8, uv .u64 0#64, uv .u64 0#64, uv .u64 0#64], [(0, 1), (1, 1)]) := by kernel_rfl
theorem go67 : goFn Tryd.prog 67 = true := by kernel_rfl
theorem sz43 : szT Tryd.prog 43 = some 1 := by kernel_rfl
theorem go30 : goFn Tryd.prog 30 = true := by kernel_rfl
end Fx
theorem Take_ok (xs : List Y) (h : Sh) (G : PM) (hs : SlR G 1 encY h xs) (hl : xs.length ≤ 100000000000000) : Ct Tryd.prog 46 ([h.val xs.length] : List Value).toArray G [] (fun _ μ' u => μ' = [] ∧ u = .tuple #[.agg (takeH xs).1.cells.toArray, .int .i64 (takeH xs).2]) := by
  refine Ct.of Tryd.func46 rfl Tryd.ntmps46 rfl fun w0 hs0 => ?_
  refine .seq ?_
  refine Wk.rg [0, 1] rfl rfl ?_
  refine al rfl Fx.zr45 ?_; intro b2
  refine asg rfl .no (.u rfl) ?_
  refine .nil ?_
  refine .code ?_
  refine .seq ?_
  refine .seq ?_
  refine Wk.rg [0, 1, 2] rfl rfl ?_
  refine mv rfl .no (.u rfl) ?_
  refine ln rfl .no Fx.sn27 (.u rfl) ?_
  refine cp rfl .no (.u rfl) (.u rfl) rfl ?_
  refine .nil ?_
  refine .code ?_
  refine .cond rfl (fun c1 => ?_) (fun c1 => ?_)
  · have c1k := c1
    try simp only [decide_eq_true_eq, decide_eq_false_iff_not, Int.not_lt, Int.not_le, gt_iff_lt, ge_iff_le, Bool.or_eq_true, Bool.and_eq_true, Bool.or_eq_false_iff, Bool.and_eq_false_iff, Bool.not_eq_true', Bool.not_eq_false', Int.toNat_natCast, bne_iff_ne, beq_iff_eq, bne_eq_false_iff_eq, beq_eq_false_iff_ne, ne_eq] at c1
    refine .seq ?_
    refine Wk.rg [0, 1, 2] rfl rfl ?_
    refine bC rfl .no Fx.bp45_ .nil rfl ?_
    refine sw rfl (.u rfl) (.u rfl) rfl Fx.sz45 .here (by first | exact (ba_len _ _).trans (ba_len _ _).symm | exact (wa_len _ _).trans (wa_len _ _).symm | exact ba_len _ _ | exact wa_len _ _ | rfl | (simp only [wa_len, ba_len, List.length_append, List.length_cons, List.length_nil])) (one5 rfl rfl rfl rfl rfl) ?_
    refine asg rfl .no (.u rfl) ?_
    refine .nil ?_
    refine .code ?_
    refine .ret ?_
    refine We.fin0 Tryd.results46 (.cell rfl (fun w hw => run_loadVarN Fx.ag45 (RdN.own .here) ((by first | exact (ba_len _ _).trans (ba_len _ _).symm | exact (wa_len _ _).trans (wa_len _ _).symm | exact ba_len _ _ | exact wa_len _ _ | rfl | (simp only [wa_len, ba_len, List.length_append, List.length_cons, List.length_nil]))) hw) (.tmp rfl .nil)) ?_
    exact ⟨rfl, by rw [take_short (by omega)]; rfl⟩
  · have c1k := c1
    try simp only [decide_eq_true_eq, decide_eq_false_iff_not, Int.not_lt, Int.not_le, gt_iff_lt, ge_iff_le, Bool.or_eq_true, Bool.and_eq_true, Bool.or_eq_false_iff, Bool.and_eq_false_iff, Bool.not_eq_true', Bool.not_eq_false', Int.toNat_natCast, bne_iff_ne, beq_iff_eq, bne_eq_false_iff_eq, beq_eq_false_iff_ne, ne_eq] at c1
    refine .skip ?_
    refine .code ?_
    refine .seq ?_
    refine Wk.rg [0, 1, 2, 3] rfl rfl ?_
    refine mv rfl .no (.u rfl) ?_
    refine kS (6) (30) rfl .no Fx.se27 hs (.u rfl) (.u rfl) (.u rfl) (fun _ => by omega) (fun _ => by omega) (fun _ => by omega) (fun _ => by omega) ?_
    intro h11 L11 eL11 lL11 hs11
    have lL11 := lL11 rfl
    refine kc rfl Fx.go66 (Eva.cons (.u rfl) Eva.nil) (cNew_ok L11 h11 _ hs11 (by omega)) ?_
    rintro _ G12 μ12 hG12 ⟨b12, sn0, rfl, rfl, hsn0⟩
    have hs := hs.mono hG12
    have hs11 := hs11.mono hG12
    refine asg rfl .no (.u rfl) ?_
    refine .nil ?_
    refine .code ?_
    refine .seq ?_
    refine Wk.draw (mc := ⟨false, false⟩) [0, 1, 2, 3, 4, 5, 6, 7, 8] Fx.mix (by kernel_rfl) ?_
    refine mv rfl .no (.u rfl) ?_
    refine ih rfl .no Fx.se27 (.u rfl) (.u rfl) (fun _ => by omega) (fun _ => by omega) (fun _ => hs.nn (k := 4) (by omega)) ?_
    refine ld rfl .no Fx.ag5 (.u rfl) (fun _ => (hs.yat (4) (by omega) (by omega)).rd) ?_
    refine mv rfl .no (.u rfl) ?_
    refine ih rfl .no Fx.se27 (.u rfl) (.u rfl) (fun _ => by omega) (fun _ => by omega) (fun _ => hs.nn (k := 5) (by omega)) ?_
    refine ld rfl .no Fx.ag5 (.u rfl) (fun _ => (hs.yat (5) (by omega) (by omega)).rd) ?_
    refine bCe ([V (xs.getD 4 0), V (xs.getD 5 0), uv .u64 0#64, uv .u64 0#64, uv .u64 0#64]) rfl .no Fx.bp45_0_1 (.cons (.u rfl) rfl (.cons (.u rfl) rfl .nil)) rfl (rfl) ?_
    refine al rfl Fx.zr45 ?_; intro b5
    refine sw rfl (.u rfl) (.u rfl) rfl Fx.sz45 .here (by first | exact (ba_len _ _).trans (ba_len _ _).symm | exact (wa_len _ _).trans (wa_len _ _).symm | exact ba_len _ _ | exact wa_len _ _ | rfl | (simp only [wa_len, ba_len, List.length_append, List.length_cons, List.length_nil])) (one5 rfl rfl rfl rfl rfl) ?_
    refine .nil ?_
    refine .code ?_
    refine .seq ?_
    refine Wk.rg [0, 1, 2, 3] rfl rfl ?_
    refine mv rfl .no (.u rfl) ?_
    refine ka rfl (.inr rfl) Fx.go67 (Eva.cons (.u rfl) (Eva.cons (.u rfl) Eva.nil)) (mtk1 (.there .here)) (rdFix_ok L11 sn0 _ _ hsn0 (by (try simp only [List.length_drop]); omega) (by (try simp only [List.length_drop]); omega)) ?_
    rintro _ G21 μ21 hG21 ⟨sn1, rfl, rfl, hsn1⟩
    have hs := hs.mono hG21
    have hs11 := hs11.mono hG21
    have hsn0 := hsn0.mono hG21
    refine fz rfl .no Fx.fo45_2 (.u rfl) ?_
    refine s1 rfl (.u rfl) (.u rfl) rfl Fx.sz43 (.there .here) (show 2 < 5 by decide) (rfl) ?_
    refine .nil ?_
    refine .code ?_
    refine .seq ?_
    refine Wk.rg [0, 1, 2, 3] rfl rfl ?_
    refine mv rfl .no (.u rfl) ?_
    refine ka rfl (.inr rfl) Fx.go67 (Eva.cons (.u rfl) (Eva.cons (.u rfl) Eva.nil)) (mtk1 (.there .here)) (rdFix_ok (L11.drop 8) sn1 _ _ hsn1 (by (try simp only [List.length_drop]); omega) (by (try simp only [List.length_drop]); omega)) ?_
    rintro _ G24 μ24 hG24 ⟨sn2, rfl, rfl, hsn2⟩
    have hs := hs.mono hG24
    have hs11 := hs11.mono hG24
    have hsn0 := hsn0.mono hG24
    have hsn1 := hsn1.mono hG24
    refine fz rfl .no Fx.fo45_3 (.u rfl) ?_
    refine s1 rfl (.u rfl) (.u rfl) rfl Fx.sz43 (.there .here) (show 3 < 5 by decide) (rfl) ?_
    refine .nil ?_
    refine .code ?_
    refine .seq ?_
    refine Wk.rg [0, 1, 2, 3] rfl rfl ?_
    refine mv rfl .no (.u rfl) ?_
    refine ka rfl (.inr rfl) Fx.go67 (Eva.cons (.u rfl) (Eva.cons (.u rfl) Eva.nil)) (mtk1 (.there .here)) (rdFix_ok ((L11.drop 8).drop 8) sn2 _ _ hsn2 (by (try simp only [List.length_drop]); omega) (by (try simp only [List.length_drop]); omega)) ?_
    rintro _ G27 μ27 hG27 ⟨sn3, rfl, rfl, hsn3⟩
    have hs := hs.mono hG27
    have hs11 := hs11.mono hG27
    have hsn0 := hsn0.mono hG27
    have hsn1 := hsn1.mono hG27
    have hsn2 := hsn2.mono hG27
    refine fz rfl .no Fx.fo45_4 (.u rfl) ?_
    refine s1 rfl (.u rfl) (.u rfl) rfl Fx.sz43 (.there .here) (show 4 < 5 by decide) (rfl) ?_
    refine .nil ?_
    refine .code ?_
    refine .seq ?_
    refine .seq ?_
    refine Wk.rg [0, 1, 2, 3, 4, 5, 6, 7, 8] rfl rfl ?_
    refine mv rfl .no (.u rfl) ?_
    refine kE (4) rfl .no Fx.se27 hs (.u rfl) (.u rfl) (fun _ => by omega) (fun _ => by omega) ?_
    intro h30 L30 eL30 lL30 hs30
    have lL30 := lL30 rfl
    refine sB rfl .no Fx.bs27_9 (.u rfl) (fun _ => hs30.sc) ?_
    refine cs rfl .no (.u rfl) (.u rfl) rfl ?_
    refine mv rfl .no (.u rfl) ?_
    refine lA rfl (.f rfl rfl) Fx.ag45 (.u rfl) (fun _ => RdN.own .here) (fun _ => (by first | exact (ba_len _ _).trans (ba_len _ _).symm | exact (wa_len _ _).trans (wa_len _ _).symm | exact ba_len _ _ | exact wa_len _ _ | rfl | (simp only [wa_len, ba_len, List.length_append, List.length_cons, List.length_nil]))) ?_
    refine kv rfl (.f rfl rfl) Fx.go30 (Eva.cons (.s rfl) Eva.nil) (fun hc => nRight_ok ⟨xs.getD 4 0, xs.getD 5 0, unfK L11 8, unfK (L11.drop 8) 8, unfK ((L11.drop 8).drop 8) 8⟩ _) ?_
    refine nt rfl (.f rfl rfl) (.s rfl) ?_
    refine pkO rfl .no (.u rfl) (.s rfl) ?_
    refine .nil ?_
    refine .code ?_
    refine .cond rfl (fun c2 => ?_) (fun c2 => ?_)
    · have c2k := c2
      try simp only [decide_eq_true_eq, decide_eq_false_iff_not, Int.not_lt, Int.not_le, gt_iff_lt, ge_iff_le, Bool.or_eq_true, Bool.and_eq_true, Bool.or_eq_false_iff, Bool.and_eq_false_iff, Bool.not_eq_true', Bool.not_eq_false', Int.toNat_natCast, bne_iff_ne, beq_iff_eq, bne_eq_false_iff_eq, beq_eq_false_iff_ne, ne_eq] at c2
      refine .seq ?_
      refine Wk.rg [0, 1, 2] rfl rfl ?_
      refine bC rfl .no Fx.bp45_ .nil rfl ?_
      refine sw rfl (.u rfl) (.u rfl) rfl Fx.sz45 (.there (.there .here)) (by first | exact (ba_len _ _).trans (ba_len _ _).symm | exact (wa_len _ _).trans (wa_len _ _).symm | exact ba_len _ _ | exact wa_len _ _ | rfl | (simp only [wa_len, ba_len, List.length_append, List.length_cons, List.length_nil])) (one5 rfl rfl rfl rfl rfl) ?_
      refine asg rfl .no (.u rfl) ?_
      refine .nil ?_
      refine .code ?_
      refine .ret ?_
      refine We.fin0 Tryd.results46 (.cell rfl (fun w hw => run_loadVarN Fx.ag45 (RdN.own .here) ((by first | exact (ba_len _ _).trans (ba_len _ _).symm | exact (wa_len _ _).trans (wa_len _ _).symm | exact ba_len _ _ | exact wa_len _ _ | rfl | (simp only [wa_len, ba_len, List.length_append, List.length_cons, List.length_nil]))) hw) (.tmp rfl .nil)) ?_
      rw [head_at eL11] at c2k
      exact ⟨rfl, by rw [take_bad (by omega) (fun hq => take_c2 eL30 c2k hq)]; rfl⟩
    · have c2k := c2
      try simp only [decide_eq_true_eq, decide_eq_false_iff_not, Int.not_lt, Int.not_le, gt_iff_lt, ge_iff_le, Bool.or_eq_true, Bool.and_eq_true, Bool.or_eq_false_iff, Bool.and_eq_false_iff, Bool.not_eq_true', Bool.not_eq_false', Int.toNat_natCast, bne_iff_ne, beq_iff_eq, bne_eq_false_iff_eq, beq_eq_false_iff_ne, ne_eq] at c2
      refine .skip ?_
      refine .code ?_
      refine .seq ?_
      refine Wk.rg [0, 1, 2] rfl rfl ?_
      refine lA rfl .no Fx.ag45 (.u rfl) (fun _ => RdN.own .here) (fun _ => (by first | exact (ba_len _ _).trans (ba_len _ _).symm | exact (wa_len _ _).trans (wa_len _ _).symm | exact ba_len _ _ | exact wa_len _ _ | rfl | (simp only [wa_len, ba_len, List.length_append, List.length_cons, List.length_nil]))) ?_
      refine sw rfl (.u rfl) (.u rfl) rfl Fx.sz45 (.there (.there .here)) (by first | exact (ba_len _ _).trans (ba_len _ _).symm | exact (wa_len _ _).trans (wa_len _ _).symm | exact ba_len _ _ | exact wa_len _ _ | rfl | (simp only [wa_len, ba_len, List.length_append, List.length_cons, List.length_nil])) (one5 rfl rfl rfl rfl rfl) ?_
      refine asg rfl .no (.u rfl) ?_
      refine .nil ?_
      refine .code ?_
      refine .ret ?_
      refine We.fin0 Tryd.results46 (.cell rfl (fun w hw => run_loadVarN Fx.ag45 (RdN.own .here) ((by first | exact (ba_len _ _).trans (ba_len _ _).symm | exact (wa_len _ _).trans (wa_len _ _).symm | exact ba_len _ _ | exact wa_len _ _ | rfl | (simp only [wa_len, ba_len, List.length_append, List.length_cons, List.length_nil]))) hw) (.tmp rfl .nil)) ?_
      rw [head_at eL11] at c2k
      exact ⟨rfl, by rw [take_good (by omega) (take_c3 eL30 c2k), ← head_at eL11]; rfl⟩

end Go.Proofs.YtoogjfldgeiapaaDoor
