/- Lemmas and contracts, joined: Contracts of functions, walked. -/
import Derived.Test.YtnhdaaggkdegpaaVb3
set_option linter.unusedSimpArgs false
set_option linter.unusedVariables false
set_option linter.unusedSectionVars false
namespace Go.Proofs.Ytnhdaaggkdegpaa
set_option linter.unusedSimpArgs false
set_option linter.unusedVariables false
open Go.Tan Go.RowKit

namespace FxVeDa
theorem fo32_5 : fOff Try.prog 32 5 = some 9 := by kernel_rfl
theorem fo32_6 : fOff Try.prog 32 6 = some 10 := by kernel_rfl
theorem ag30 : aggN Try.prog 30 = some none := by kernel_rfl
theorem se30 : slE Try.prog 30 = some (51, 2, 16) := by kernel_rfl
end FxVeDa
namespace Fx
theorem se71 : slE Try.prog 71 = some (70, 1, 8) := by kernel_rfl
theorem zr32 : zrL Try.prog 32 = some (nine (fun _ => 0) ++ [.slice none 0 0, .slice none 0 0]) := by kernel_rfl
theorem go35 : goFn Try.prog 35 = true := by kernel_rfl
theorem bp69_0 : bPl Try.prog 69 [0] = some ([.pointer none, .bool false], [(0, 1)]) := by kernel_rfl
theorem fo32_0 : fOff Try.prog 32 0 = some 0 := by kernel_rfl
theorem fo32_1 : fOff Try.prog 32 1 = some 1 := by kernel_rfl
theorem fo32_2 : fOff Try.prog 32 2 = some 2 := by kernel_rfl
theorem fo32_3 : fOff Try.prog 32 3 = some 3 := by kernel_rfl
theorem zv70 : (Try.prog.info? 70).bind (·.zero) = some (.pointer none) := by kernel_rfl
theorem sn71 : (slE Try.prog 71).isSome = true := by kernel_rfl
theorem ag70 : aggN Try.prog 70 = some none := by kernel_rfl
theorem fo32_4 : fOff Try.prog 32 4 = some 4 := by kernel_rfl
theorem go38 : goFn Try.prog 38 = true := by kernel_rfl
theorem sz22 : szT Try.prog 22 = some 1 := by kernel_rfl
theorem bp51_0 : bPl Try.prog 51 [0] = some ([.int .u8 0, .int .u64 0], [(0, 1)]) := by kernel_rfl
theorem zr51 : zrL Try.prog 51 = some ([.int .u8 0, .int .u64 0]) := by kernel_rfl
theorem sz51 : szT Try.prog 51 = some 2 := by kernel_rfl
theorem fo51_1 : fOff Try.prog 51 1 = some 1 := by kernel_rfl
theorem ag51 : aggN Try.prog 51 = some (some 2) := by kernel_rfl
theorem zv51 : (Try.prog.info? 51).bind (·.zero) = some (.agg #[.int .u8 0, .int .u64 0]) := by kernel_rfl
theorem sz30 : szT Try.prog 30 = some 1 := by kernel_rfl
theorem go39 : goFn Try.prog 39 = true := by kernel_rfl
theorem bp32_ : bPl Try.prog 32 [] = some (nine (fun _ => 0) ++ [.slice none 0 0, .slice none 0 0], []) := by kernel_rfl
theorem sz32 : szT Try.prog 32 = some 11 := by kernel_rfl
theorem ag32 : aggN Try.prog 32 = some (some 11) := by kernel_rfl
end Fx
set_option maxHeartbeats 2000000 in
theorem decode_ok (xs : List Y) (h : Sh) (G : PM) (hs : SlR G 1 encY h xs) (hl : xs.length ≤ 100000000000000) : Ct Try.prog 15 ([h.val xs.length] : List Value).toArray G [] (fun G' μ' u => ∃ e err ha hd, DecR xs e err ∧ μ' = [] ∧ u = .tuple #[Edit.val e ha hd, .int .i64 err] ∧ EdR G' e ha hd) := by
  refine Ct.of Try.func15 rfl Try.ntmps15 rfl fun w0 hs0 => ?_
  refine .seq ?_
  refine Wk.rg [0, 1] rfl rfl ?_
  refine al rfl Fx.zr32 ?_; intro b2
  refine asg rfl .no (.u rfl) ?_
  refine .nil ?_
  refine .code ?_
  refine .seq ?_
  refine Wk.rg [0, 1, 2, 3, 4] rfl rfl ?_
  refine mv rfl .no (.u rfl) ?_
  refine kc rfl Fx.go35 (Eva.cons (.u rfl) Eva.nil) (cNew_ok xs h _ hs hl) ?_
  rintro _ G13 μ13 hG13 ⟨b13, s13, rfl, rfl, hs13⟩
  have hs := hs.mono hG13
  refine bCe ([.pointer (some ⟨b13, 0, none⟩), .bool false]) rfl .no Fx.bp69_0 (.cons (.u rfl) rfl .nil) rfl (rfl) ?_
  refine bx rfl (.u rfl) rfl ?_; intro b15
  refine asg rfl .no (.u rfl) ?_
  refine .nil ?_
  refine .code ?_
  refine .seq ?_
  refine Wk.rg [0] rfl rfl ?_
  refine al rfl Fx.zr32 ?_; intro b5
  refine .nil ?_
  refine .code ?_
  refine .seq ?_
  refine .seq ?_
  refine Wk.rg [0, 1, 2, 3, 4, 5, 6] rfl rfl ?_
  refine fz rfl .no Fx.fo32_0 (.u rfl) ?_
  refine fz rfl .no Fx.fo32_1 (.u rfl) ?_
  refine fz rfl .no Fx.fo32_2 (.u rfl) ?_
  refine fz rfl .no Fx.fo32_3 (.u rfl) ?_
  refine Go.Tan.bN rfl Fx.se71 Fx.zv70 (Evp.cons (.u rfl) (Evp.cons (.u rfl) (Evp.cons (.u rfl) (Evp.cons (.u rfl) Evp.nil)))) rfl (by decide) (by simp [Value.oneCell', Sh.val]) ?_; intro b20
  refine ln rfl .no Fx.sn71 (.u rfl) ?_
  refine mv rfl .no (.u rfl) ?_
  refine .nil ?_
  refine .code ?_
  refine .block ?_
  refine Wk.lop (α := Nat × List Y × Int × Sh × (Nat → Int) × List Nat) (fun gh => [(22, true, .int .i64 (gh.1 : Int))]) (fun gh => [.blk b5 (cl (nine gh.2.2.2.2.1 ++ [.slice none 0 0, .slice none 0 0]) 32), .blk b13 (cl [Sh.val gh.2.2.2.1 gh.2.1.length, .int .i64 gh.2.2.1] 101)])
    (fun gh Gl => (gh.1 ≤ 4) ∧ (gh.2.2.2.2.2.length = gh.1) ∧ (RpR (fun α => @pNum α) 9 ⟨xs, 0⟩ ⟨gh.2.1, gh.2.2.1⟩ false false gh.2.2.2.2.2) ∧ (∀ i, gh.2.2.2.2.1 i = ((gh.2.2.2.2.2.getD i 0 : Nat) : Int)) ∧ (gh.2.1.length ≤ xs.length) ∧ (SlR Gl 1 encY gh.2.2.2.1 gh.2.1)) (fun gh => 4 - gh.1) (0, xs, 0, s13, (fun _ => 0), []) [(2, true, _), (4, true, _), (5, true, _), (20, true, _), (21, true, _)] [_, _, _]
    (ESub.cons rfl (by first | rfl | exact evi (by omega)) (ESub.cons rfl rfl (ESub.cons rfl rfl (ESub.cons rfl rfl (ESub.cons rfl rfl (ESub.cons rfl rfl ESub.nil))))))
    (MSub.cons (.there .here) rfl (MSub.cons (.there (.there .here)) rfl (MSub.cons .here rfl (MSub.cons .here rfl (MSub.cons .here rfl MSub.nil))))) ?_ ?_
  · refine ⟨?_, ?_, ?_, ?_, ?_, ?_⟩
    · (try dsimp only) <;> (first | omega | rfl | assumption | (simp; done))
    · (try dsimp only) <;> (first | omega | rfl | assumption | (simp; done))
    · (try dsimp only) <;> (exact RpR.zero)
    · (try dsimp only) <;> (exact fun i => by simp)
    · (try dsimp only) <;> (first | omega | rfl | assumption | (simp; done))
    · (try dsimp only) <;> (exact hs13)
  intro gh N0 Gl0 hN0 hGl0 hF0
  obtain ⟨k, L, ee, s9, g, rt⟩ := gh; dsimp only at hF0 hN0 ⊢
  obtain ⟨hk, hr, hR, eg, lL, hsl⟩ := hF0
  have hs := hs.mono hGl0
  have hs13 := hs13.mono hGl0
  refine .seq ?_
  refine Wk.rg [0] rfl rfl ?_
  refine cp rfl .no (.u rfl) (.u rfl) rfl ?_
  refine .nil ?_
  refine .code ?_
  refine .seq ?_
  refine .cond rfl (fun c1 => ?_) (fun c1 => ?_)
  · have c1k := c1
    try simp only [decide_eq_true_eq, decide_eq_false_iff_not, Int.not_lt, Int.not_le, gt_iff_lt, ge_iff_le, Bool.or_eq_true, Bool.and_eq_true, Bool.or_eq_false_iff, Bool.and_eq_false_iff, Bool.not_eq_true', Bool.not_eq_false', Int.toNat_natCast, bne_iff_ne, beq_iff_eq, bne_eq_false_iff_eq, beq_eq_false_iff_ne, ne_eq] at c1
    refine .skip ?_
    refine .code ?_
    refine .seq ?_
    refine .block ?_
    refine .seq ?_
    refine Wk.rg [0, 1, 2] rfl rfl ?_
    refine ia rfl .no Fx.se71 (.u rfl) (.u rfl) (fun _ => by omega) (fun _ => by omega) ?_
    refine ld (v := .pointer (some ⟨b5, k, none⟩)) rfl .no Fx.ag70 (.u rfl) (fun _ => Rd.own (.there (.there .here)) (four_at rfl (by omega))) ?_
    refine asg rfl .no (.u rfl) ?_
    refine .nil ?_
    refine .code ?_
    refine Wk.rg [0, 1, 2, 3, 4, 5, 6, 7] rfl rfl ?_
    refine mv rfl .no (.u rfl) ?_
    refine mv rfl .no (.u rfl) ?_
    refine nc rfl .no (.u rfl) ?_
    refine fz rfl .no Fx.fo69_0 (.u rfl) ?_
    refine ld rfl .no Fx.ag66 (.u rfl) (fun _ => Rd.own (.there (.there (.there .here))) (by first | exact wap_f rfl | rfl)) ?_
    refine ka rfl (.inr rfl) Fx.go36 (Eva.cons (.u rfl) Eva.nil) (mtk1 (.there .here)) (rNum_ok L ee s9 b13 _ hsl (by omega)) ?_
    rintro _ G31 μ31 hG31 ⟨n31, L31, e31, s31, hN31, rfl, rfl, hs31⟩
    have lL31 := rdnum_le hN31; have nL31 := rdnum_lt hN31; simp only at lL31
    have hs := hs.mono hG31
    have hs13 := hs13.mono hG31
    have hsl := hsl.mono hG31
    refine nc rfl .no (.u rfl) ?_
    refine s1 rfl (.u rfl) (.u rfl) rfl Fx.sz24 (.there .here) (by first | decide | (simp only [List.length_append, nine_len, List.length_cons, List.length_nil]; omega)) (nine_st (k := k) rfl (by omega)) ?_
    refine .nil ?_
    refine .blk ?_
    refine .code ?_
    refine Wk.rg [0, 1] rfl rfl ?_
    refine arn (((k + 1) : Nat) : Int) rfl .no (.u rfl) (.u rfl) rfl (fun _ => by omega) (fun _ => wrap_i64 (by omega) (by omega)) ?_
    refine mv rfl .no (.u rfl) ?_
    refine .nil ?_
    refine We.lpo (k + 1, L31, e31, s31, upd g k (n31 : Int), rt ++ [n31]) ?_ ?_ ?_ ?_ ?_
    · exact (ESub.cons rfl (by first | rfl | exact evi (by omega)) (ESub.cons rfl rfl (ESub.cons rfl rfl (ESub.cons rfl rfl (ESub.cons rfl rfl (ESub.cons rfl rfl ESub.nil))))))
    · exact (MSub.cons .here rfl (MSub.cons .here rfl (MSub.cons .here rfl (MSub.cons .here rfl (MSub.cons .here rfl MSub.nil)))))
    · first | omega | (dsimp only; omega)
    · exact (hGl0).trans hG31
    · refine ⟨?_, ?_, ?_, ?_, ?_, ?_⟩
      · (try dsimp only) <;> (first | omega | rfl | assumption | (simp; done))
      · (try dsimp only) <;> (simp [hr])
      · (try dsimp only) <;> (exact hR.step (by omega) (fun α O k h => h.numE hN31))
      · (try dsimp only) <;> (exact gs_step hr eg)
      · (try dsimp only) <;> (first | omega | rfl | assumption | (simp; done))
      · (try dsimp only) <;> (exact hs31)
  · have c1k := c1
    try simp only [decide_eq_true_eq, decide_eq_false_iff_not, Int.not_lt, Int.not_le, gt_iff_lt, ge_iff_le, Bool.or_eq_true, Bool.and_eq_true, Bool.or_eq_false_iff, Bool.and_eq_false_iff, Bool.not_eq_true', Bool.not_eq_false', Int.toNat_natCast, bne_iff_ne, beq_iff_eq, bne_eq_false_iff_eq, beq_eq_false_iff_ne, ne_eq] at c1
    refine .exit ?_
    refine .xcode ?_
    refine .xlp ?_
    refine .xblk ?_
    refine .code ?_
    refine .seq ?_
    refine .seq ?_
    refine Wk.rg [0] rfl rfl ?_
    refine mv rfl .no (.u rfl) ?_
    refine .nil ?_
    refine .code ?_
    refine .block ?_
    refine Wk.lop (α := Nat × List Y × Int × Sh × (Nat → Int) × List Nat) (fun gh => [(34, true, .int .i64 (gh.1 : Int))]) (fun gh => [.blk b5 (cl (nine gh.2.2.2.2.1 ++ [.slice none 0 0, .slice none 0 0]) 32), .blk b13 (cl [Sh.val gh.2.2.2.1 gh.2.1.length, .int .i64 gh.2.2.1] 101)])
      (fun gh Gl => (gh.1 ≤ 5) ∧ (gh.2.2.2.2.2.length = 4 + gh.1) ∧ (RpR (fun α => @pNum α) 9 ⟨xs, 0⟩ ⟨gh.2.1, gh.2.2.1⟩ false false gh.2.2.2.2.2) ∧ (∀ i, gh.2.2.2.2.1 i = ((gh.2.2.2.2.2.getD i 0 : Nat) : Int)) ∧ (gh.2.1.length ≤ xs.length) ∧ (SlR Gl 1 encY gh.2.2.2.1 gh.2.1)) (fun gh => 5 - gh.1) (0, L, ee, s9, g, rt) [(2, true, _), (4, true, _), (5, true, _)] [_, _, _]
      (ESub.cons rfl (by first | rfl | exact evi (by omega)) (ESub.cons rfl rfl (ESub.cons rfl rfl (ESub.cons rfl rfl ESub.nil))))
      (MSub.cons .here rfl (MSub.cons .here rfl (MSub.cons .here rfl (MSub.cons .here rfl (MSub.cons .here rfl MSub.nil))))) ?_ ?_
    · refine ⟨?_, ?_, ?_, ?_, ?_, ?_⟩
      · (try dsimp only) <;> (first | omega | rfl | assumption | (simp; done))
      · (try dsimp only) <;> (first | omega | rfl | assumption | (simp; done))
      · (try dsimp only) <;> (exact hR)
      · (try dsimp only) <;> (exact eg)
      · (try dsimp only) <;> (first | omega | rfl | assumption | (simp; done))
      · (try dsimp only) <;> (exact hsl)
    intro gh N1 Gl1 hN1 hGl1 hF1
    obtain ⟨k2, L2, e2, s2, g2, rt2⟩ := gh; dsimp only at hF1 hN1 ⊢
    obtain ⟨hk2, hr2, hR2, eg2, lL2, hsl2⟩ := hF1
    have hs := hs.mono hGl1
    have hs13 := hs13.mono hGl1
    have hsl := hsl.mono hGl1
    refine .seq ?_
    refine Wk.rg [0] rfl rfl ?_
    refine cp rfl .no (.u rfl) (.u rfl) rfl ?_
    refine .nil ?_
    refine .code ?_
    refine .seq ?_
    refine .cond rfl (fun c2 => ?_) (fun c2 => ?_)
    · have c2k := c2
      try simp only [decide_eq_true_eq, decide_eq_false_iff_not, Int.not_lt, Int.not_le, gt_iff_lt, ge_iff_le, Bool.or_eq_true, Bool.and_eq_true, Bool.or_eq_false_iff, Bool.and_eq_false_iff, Bool.not_eq_true', Bool.not_eq_false', Int.toNat_natCast, bne_iff_ne, beq_iff_eq, bne_eq_false_iff_eq, beq_eq_false_iff_ne, ne_eq] at c2
      refine .skip ?_
      refine .code ?_
      refine .seq ?_
      refine .block ?_
      refine .seq ?_
      refine Wk.rg [0, 1] rfl rfl ?_
      refine mv rfl .no (.u rfl) ?_
      refine asg rfl .no (.u rfl) ?_
      refine .nil ?_
      refine .code ?_
      refine Wk.rg [0, 1, 2, 3, 4, 5, 6, 7, 8] rfl rfl ?_
      refine mv rfl .no (.u rfl) ?_
      refine mv rfl .no (.u rfl) ?_
      refine nc rfl .no (.u rfl) ?_
      refine fz rfl .no Fx.fo69_0 (.u rfl) ?_
      refine ld rfl .no Fx.ag66 (.u rfl) (fun _ => Rd.own (.there (.there (.there .here))) (by first | exact wap_f rfl | rfl)) ?_
      refine ka rfl (.inr rfl) Fx.go36 (Eva.cons (.u rfl) Eva.nil) (mtk1 (.there .here)) (rNum_ok L2 e2 s2 b13 _ hsl2 (by omega)) ?_
      rintro _ G42 μ42 hG42 ⟨n42, L42, e42, s42, hN42, rfl, rfl, hs42⟩
      have lL42 := rdnum_le hN42; have nL42 := rdnum_lt hN42; simp only at lL42
      have hs := hs.mono hG42
      have hs13 := hs13.mono hG42
      have hsl := hsl.mono hG42
      have hsl2 := hsl2.mono hG42
      refine fz rfl .no Fx.fo32_4 (.u rfl) ?_
      refine iA rfl .no Fx.ar25 (.u rfl) (.u rfl) (fun _ => by omega) (fun _ => by omega) ?_
      refine s1 rfl (.u rfl) (.u rfl) rfl Fx.sz24 (.there .here) (by first | decide | (simp only [List.length_append, nine_len, List.length_cons, List.length_nil]; omega)) (nine_st (k := 4 + k2) (by omega) (by omega)) ?_
      refine .nil ?_
      refine .blk ?_
      refine .code ?_
      refine Wk.rg [0, 1] rfl rfl ?_
      refine arn (((k2 + 1) : Nat) : Int) rfl .no (.u rfl) (.u rfl) rfl (fun _ => by omega) (fun _ => wrap_i64 (by omega) (by omega)) ?_
      refine mv rfl .no (.u rfl) ?_
      refine .nil ?_
      refine We.lpo (k2 + 1, L42, e42, s42, upd g2 (4 + k2) (n42 : Int), rt2 ++ [n42]) ?_ ?_ ?_ ?_ ?_
      · exact (ESub.cons rfl (by first | rfl | exact evi (by omega)) (ESub.cons rfl rfl (ESub.cons rfl rfl (ESub.cons rfl rfl ESub.nil))))
      · exact (MSub.cons .here rfl (MSub.cons .here rfl (MSub.cons .here rfl (MSub.cons .here rfl (MSub.cons .here rfl MSub.nil)))))
      · first | omega | (dsimp only; omega)
      · exact (hGl1).trans hG42
      · refine ⟨?_, ?_, ?_, ?_, ?_, ?_⟩
        · (try dsimp only) <;> (first | omega | rfl | assumption | (simp; done))
        · (try dsimp only) <;> (simp [hr2]; omega)
        · (try dsimp only) <;> (exact hR2.step (by omega) (fun α O k h => h.numE hN42))
        · (try dsimp only) <;> (exact gs_step hr2 eg2)
        · (try dsimp only) <;> (first | omega | rfl | assumption | (simp; done))
        · (try dsimp only) <;> (exact hs42)
    · have c2k := c2
      try simp only [decide_eq_true_eq, decide_eq_false_iff_not, Int.not_lt, Int.not_le, gt_iff_lt, ge_iff_le, Bool.or_eq_true, Bool.and_eq_true, Bool.or_eq_false_iff, Bool.and_eq_false_iff, Bool.not_eq_true', Bool.not_eq_false', Int.toNat_natCast, bne_iff_ne, beq_iff_eq, bne_eq_false_iff_eq, beq_eq_false_iff_ne, ne_eq] at c2
      refine .exit ?_
      refine .xcode ?_
      refine .xlp ?_
      refine .xblk ?_
      refine .code ?_
      refine .seq ?_
      refine .seq ?_
      refine wk_nilS 40 Meta.cells 48 ?_
      refine Wk.rg [0, 1, 2] rfl rfl ?_
      refine mv rfl .no (.u rfl) ?_
      refine ka rfl (.inr rfl) Fx.go37 (Eva.cons (.u rfl) (Eva.cons (.u rfl) Eva.nil)) (mtk2 (.there (.there (.there (.there .here)))) (.there (.there .here))) (upTo_ok L2 e2 false s2 b15 b13 _ hsl2 (by omega) 1024) ?_
      rintro _ G47 μ47 hG47 ⟨n47, L47, e47, s47, bad47, hN47, hb47, rfl, rfl, hs47⟩
      have lL47 := rdnum_le hN47; have nL47 := rdnum_lt hN47; simp only at lL47
      have hs := hs.mono hG47
      have hs13 := hs13.mono hG47
      have hsl := hsl.mono hG47
      have hsl2 := hsl2.mono hG47
      refine asg rfl .no (.u rfl) ?_
      refine .nil ?_
      refine .code ?_
      refine .block ?_
      have hT1 := dec_b (dec_a hR2 (by omega)) hN47 hb47
      refine Wk.lop (α := Nat × Value × List Y × Int × Sh × Bool × List Meta) (fun gh => [(9, true, .int .u64 (gh.1 : Int))]) (fun gh => [.blk b15 (cl [.pointer (some ⟨b13, 0, none⟩), .bool gh.2.2.2.2.2.1] 69), .blk b13 (cl [Sh.val gh.2.2.2.2.1 gh.2.2.1.length, .int .i64 gh.2.2.2.1] 101), rS 40 Meta.cells gh.2.1 48 gh.2.2.2.2.2.2, .blk b5 (cl (nine g2 ++ [gh.2.1, .slice none 0 0]) 32)])
        (fun gh Gl => (gh.1 + gh.2.2.2.2.2.2.length = n47) ∧ (RpR (fun α => @pMeta α) n47 ⟨L47, e47⟩ ⟨gh.2.2.1, gh.2.2.2.1⟩ bad47 gh.2.2.2.2.2.1 gh.2.2.2.2.2.2) ∧ (gh.2.2.2.2.2.1 = false → n47 ≤ 1024) ∧ (gh.2.2.1.length ≤ xs.length) ∧ (SlR Gl 1 encY gh.2.2.2.2.1 gh.2.2.1)) (fun gh => gh.1) (n47, .slice none 0 0, L47, e47, s47, bad47, []) [(2, true, _), (4, true, _), (5, true, _)] [_, _]
        (ESub.cons rfl rfl (ESub.cons rfl rfl (ESub.cons rfl rfl (ESub.cons rfl rfl ESub.nil))))
        (MSub.cons .here rfl (MSub.cons .here rfl (MSub.cons .here rfl (MSub.cons .here rfl (MSub.cons .here rfl (MSub.cons .here rfl MSub.nil)))))) ?_ ?_
      · refine ⟨?_, ?_, ?_, ?_, ?_⟩
        · (try dsimp only) <;> (first | omega | rfl | assumption | (simp; done))
        · (try dsimp only) <;> (exact RpR.zero)
        · (try dsimp only) <;> (exact fun h => up_le hb47 h)
        · (try dsimp only) <;> (first | omega | rfl | assumption | (simp; done))
        · (try dsimp only) <;> (exact hs47)
      intro gh N2 Gl2 hN2 hGl2 hF2
      obtain ⟨n, va, L3, e3, s3, bad3, add⟩ := gh; dsimp only at hF2 hN2 ⊢
      obtain ⟨hn3, hR3, hbd, lL3, hsl3⟩ := hF2
      have hs := hs.mono hGl2
      have hs13 := hs13.mono hGl2
      have hsl := hsl.mono hGl2
      have hsl2 := hsl2.mono hGl2
      have hs47 := hs47.mono hGl2
      refine .seq ?_
      refine .seq ?_
      refine Wk.rg [0, 1, 2, 3, 4, 5, 6, 7, 8] rfl rfl ?_
      refine mv rfl .no (.u rfl) ?_
      refine cp rfl .no (.u rfl) (.u rfl) rfl ?_
      refine mv rfl .no (.u rfl) ?_
      refine mv rfl (.t rfl rfl) (.u rfl) ?_
      refine nc rfl (.t rfl rfl) (.s rfl) ?_
      refine fz rfl (.t rfl rfl) Fx.fo69_1 (.s rfl) ?_
      refine ld rfl (.t rfl rfl) Fx.ag4 (.s rfl) (fun hc => Rd.own .here (by first | exact wap_f rfl | rfl)) ?_
      refine nt rfl (.t rfl rfl) (.s rfl) ?_
      refine pkA rfl .no (.u rfl) (.s rfl) ?_
      refine .nil ?_
      refine .code ?_
      refine .cond rfl (fun c3 => ?_) (fun c3 => ?_)
      · have c3k := c3
        try simp only [decide_eq_true_eq, decide_eq_false_iff_not, Int.not_lt, Int.not_le, gt_iff_lt, ge_iff_le, Bool.or_eq_true, Bool.and_eq_true, Bool.or_eq_false_iff, Bool.and_eq_false_iff, Bool.not_eq_true', Bool.not_eq_false', Int.toNat_natCast, bne_iff_ne, beq_iff_eq, bne_eq_false_iff_eq, beq_eq_false_iff_ne, ne_eq] at c3
        refine .skip ?_
        refine .code ?_
        refine .seq ?_
        refine .block ?_
        refine Wk.drawT Fx.mix rfl ?_
        refine WoT.n2 0 2 (by kernel_rfl) ?_ ?_
        · refine fz rfl .no FxVeDa.fo32_5 (.u rfl) ?_
          refine .nil ?_
          refine WoT.n2 1 2 (by kernel_rfl) ?_ ?_
          · refine ld rfl .no Fx.ag22 (.u rfl) (fun _ => Rd.own (.there (.there (.there .here))) nine_a) ?_
            refine .nil ?_
            refine WoT.n1 2 (by kernel_rfl) ?_
            refine mv rfl .no (.u rfl) ?_
            refine .nil ?_
            refine WoT.n1 3 (by kernel_rfl) ?_
            refine ka rfl (.inr rfl) Fx.go38 (Eva.cons (.u rfl) Eva.nil) (mtk2 .here .here) (meta_ok L3 e3 bad3 s3 b15 b13 _ hsl3 (by omega)) ?_
            rintro _ G62 μ62 hG62 ⟨m62, L62, e62, s62, bad62, hM62, lL62, rfl, rfl, hs62⟩
            have hs := hs.mono hG62
            have hs13 := hs13.mono hG62
            have hsl := hsl.mono hG62
            have hsl2 := hsl2.mono hG62
            have hs47 := hs47.mono hG62
            have hsl3 := hsl3.mono hG62
            refine .nil ?_
            refine WoT.n1 4 (by kernel_rfl) ?_
            refine Go.Tan.b1 rfl Fx.se22 Fx.zv48 (.u rfl) rfl rfl (by decide) ?_; intro b63
            refine .nil ?_
            refine WoT.n1 5 (by kernel_rfl) ?_
            refine apS (m62) rfl Fx.se22 Fx.zv48 rfl (.u rfl) (.u rfl) (.there (.there (.there .here))) .here (Meta.len _) (Meta.one _) (by have := hbd c3.2; omega) (by have := hbd c3.2; unfold maxLen; omega) ?_; intro v64 ov64
            refine .nil ?_
            refine WoT.n1 6 (by kernel_rfl) ?_
            refine fz rfl .no FxVeDa.fo32_5 (.u rfl) ?_
            refine .nil ?_
            refine WoT.n1 7 (by kernel_rfl) ?_
            refine s1v rfl (.u rfl) (.u rfl) .here Fx.sz22 (.there (.there (.there (.there .here)))) (by first | decide | (simp only [List.length_append, nine_len, List.length_cons, List.length_nil]; omega)) (nine_sa) ?_
            refine .nil ?_
            refine WoT.last (by kernel_rfl) ?_
            refine .blk ?_
            refine .code ?_
            refine Wk.rg [0, 1, 2] rfl rfl ?_
            refine mv rfl .no (.u rfl) ?_
            refine ar rfl .no (.u rfl) (.u rfl) rfl (fun _ => wrap_u64 (by omega) (by omega)) ?_
            refine asg rfl .no (.u rfl) ?_
            refine .nil ?_
            refine We.lpo (n - 1, v64, L62, e62, s62, bad62, add ++ [m62]) ?_ ?_ ?_ ?_ ?_
            · exact (ESub.cons rfl (evi (by omega)) (ESub.cons rfl rfl (ESub.cons rfl rfl (ESub.cons rfl rfl ESub.nil))))
            · exact (MSub.cons (.there (.there (.there .here))) rfl (MSub.cons (.there (.there (.there .here))) rfl (MSub.cons (.there .here) rfl (MSub.cons .here rfl (MSub.cons (.there .here) rfl (MSub.cons (.there .here) rfl MSub.nil))))))
            · first | omega | (dsimp only; omega)
            · exact (hGl2).trans hG62
            · refine ⟨?_, ?_, ?_, ?_, ?_⟩
              · (try dsimp only) <;> (rw [List.length_append]; show _ + (_ + 1) = _; omega)
              · (try dsimp only) <;> (exact hR3.step (by omega) hM62)
              · (try dsimp only) <;> (exact fun _ => hbd c3.2)
              · (try dsimp only) <;> (first | omega | rfl | assumption | (simp; done))
              · (try dsimp only) <;> (exact hs62)
          · refine mv rfl .no (.u rfl) ?_
            refine .nil ?_
            refine WoT.n2 1 3 (by kernel_rfl) ?_ ?_
            · refine ld rfl .no Fx.ag22 (.u rfl) (fun _ => Rd.own (.there (.there (.there .here))) nine_a) ?_
              refine .nil ?_
              refine WoT.n1 3 (by kernel_rfl) ?_
              refine ka rfl (.inr rfl) Fx.go38 (Eva.cons (.u rfl) Eva.nil) (mtk2 .here .here) (meta_ok L3 e3 bad3 s3 b15 b13 _ hsl3 (by omega)) ?_
              rintro _ G62 μ62 hG62 ⟨m62, L62, e62, s62, bad62, hM62, lL62, rfl, rfl, hs62⟩
              have hs := hs.mono hG62
              have hs13 := hs13.mono hG62
              have hsl := hsl.mono hG62
              have hsl2 := hsl2.mono hG62
              have hs47 := hs47.mono hG62
              have hsl3 := hsl3.mono hG62
              refine .nil ?_
              refine WoT.n1 4 (by kernel_rfl) ?_
              refine Go.Tan.b1 rfl Fx.se22 Fx.zv48 (.u rfl) rfl rfl (by decide) ?_; intro b63
              refine .nil ?_
              refine WoT.n1 5 (by kernel_rfl) ?_
              refine apS (m62) rfl Fx.se22 Fx.zv48 rfl (.u rfl) (.u rfl) (.there (.there (.there .here))) .here (Meta.len _) (Meta.one _) (by have := hbd c3.2; omega) (by have := hbd c3.2; unfold maxLen; omega) ?_; intro v64 ov64
              refine .nil ?_
              refine WoT.n1 6 (by kernel_rfl) ?_
              refine fz rfl .no FxVeDa.fo32_5 (.u rfl) ?_
              refine .nil ?_
              refine WoT.n1 7 (by kernel_rfl) ?_
              refine s1v rfl (.u rfl) (.u rfl) .here Fx.sz22 (.there (.there (.there (.there .here)))) (by first | decide | (simp only [List.length_append, nine_len, List.length_cons, List.length_nil]; omega)) (nine_sa) ?_
              refine .nil ?_
              refine WoT.last (by kernel_rfl) ?_
              refine .blk ?_
              refine .code ?_
              refine Wk.rg [0, 1, 2] rfl rfl ?_
              refine mv rfl .no (.u rfl) ?_
              refine ar rfl .no (.u rfl) (.u rfl) rfl (fun _ => wrap_u64 (by omega) (by omega)) ?_
              refine asg rfl .no (.u rfl) ?_
              refine .nil ?_
              refine We.lpo (n - 1, v64, L62, e62, s62, bad62, add ++ [m62]) ?_ ?_ ?_ ?_ ?_
              · exact (ESub.cons rfl (evi (by omega)) (ESub.cons rfl rfl (ESub.cons rfl rfl (ESub.cons rfl rfl ESub.nil))))
              · exact (MSub.cons (.there (.there (.there .here))) rfl (MSub.cons (.there (.there (.there .here))) rfl (MSub.cons (.there .here) rfl (MSub.cons .here rfl (MSub.cons (.there .here) rfl (MSub.cons (.there .here) rfl MSub.nil))))))
              · first | omega | (dsimp only; omega)
              · exact (hGl2).trans hG62
              · refine ⟨?_, ?_, ?_, ?_, ?_⟩
                · (try dsimp only) <;> (rw [List.length_append]; show _ + (_ + 1) = _; omega)
                · (try dsimp only) <;> (exact hR3.step (by omega) hM62)
                · (try dsimp only) <;> (exact fun _ => hbd c3.2)
                · (try dsimp only) <;> (first | omega | rfl | assumption | (simp; done))
                · (try dsimp only) <;> (exact hs62)
            · refine ka rfl (.inr rfl) Fx.go38 (Eva.cons (.u rfl) Eva.nil) (mtk2 .here .here) (meta_ok L3 e3 bad3 s3 b15 b13 _ hsl3 (by omega)) ?_
              rintro _ G62 μ62 hG62 ⟨m62, L62, e62, s62, bad62, hM62, lL62, rfl, rfl, hs62⟩
              have hs := hs.mono hG62
              have hs13 := hs13.mono hG62
              have hsl := hsl.mono hG62
              have hsl2 := hsl2.mono hG62
              have hs47 := hs47.mono hG62
              have hsl3 := hsl3.mono hG62
              refine .nil ?_
              refine WoT.n2 1 4 (by kernel_rfl) ?_ ?_
              · refine ld rfl .no Fx.ag22 (.u rfl) (fun _ => Rd.own (.there (.there (.there .here))) nine_a) ?_
                refine .nil ?_
                refine WoT.n1 4 (by kernel_rfl) ?_
                refine Go.Tan.b1 rfl Fx.se22 Fx.zv48 (.u rfl) rfl rfl (by decide) ?_; intro b63
                refine .nil ?_
                refine WoT.n1 5 (by kernel_rfl) ?_
                refine apS (m62) rfl Fx.se22 Fx.zv48 rfl (.u rfl) (.u rfl) (.there (.there (.there .here))) .here (Meta.len _) (Meta.one _) (by have := hbd c3.2; omega) (by have := hbd c3.2; unfold maxLen; omega) ?_; intro v64 ov64
                refine .nil ?_
                refine WoT.n1 6 (by kernel_rfl) ?_
                refine fz rfl .no FxVeDa.fo32_5 (.u rfl) ?_
                refine .nil ?_
                refine WoT.n1 7 (by kernel_rfl) ?_
                refine s1v rfl (.u rfl) (.u rfl) .here Fx.sz22 (.there (.there (.there (.there .here)))) (by first | decide | (simp only [List.length_append, nine_len, List.length_cons, List.length_nil]; omega)) (nine_sa) ?_
                refine .nil ?_
                refine WoT.last (by kernel_rfl) ?_
                refine .blk ?_
                refine .code ?_
                refine Wk.rg [0, 1, 2] rfl rfl ?_
                refine mv rfl .no (.u rfl) ?_
                refine ar rfl .no (.u rfl) (.u rfl) rfl (fun _ => wrap_u64 (by omega) (by omega)) ?_
                refine asg rfl .no (.u rfl) ?_
                refine .nil ?_
                refine We.lpo (n - 1, v64, L62, e62, s62, bad62, add ++ [m62]) ?_ ?_ ?_ ?_ ?_
                · exact (ESub.cons rfl (evi (by omega)) (ESub.cons rfl rfl (ESub.cons rfl rfl (ESub.cons rfl rfl ESub.nil))))
                · exact (MSub.cons (.there (.there (.there .here))) rfl (MSub.cons (.there (.there (.there .here))) rfl (MSub.cons (.there .here) rfl (MSub.cons .here rfl (MSub.cons (.there .here) rfl (MSub.cons (.there .here) rfl MSub.nil))))))
                · first | omega | (dsimp only; omega)
                · exact (hGl2).trans hG62
                · refine ⟨?_, ?_, ?_, ?_, ?_⟩
                  · (try dsimp only) <;> (rw [List.length_append]; show _ + (_ + 1) = _; omega)
                  · (try dsimp only) <;> (exact hR3.step (by omega) hM62)
                  · (try dsimp only) <;> (exact fun _ => hbd c3.2)
                  · (try dsimp only) <;> (first | omega | rfl | assumption | (simp; done))
                  · (try dsimp only) <;> (exact hs62)
              · refine Go.Tan.b1 rfl Fx.se22 Fx.zv48 (.u rfl) rfl rfl (by decide) ?_; intro b63
                refine .nil ?_
                refine WoT.n1 1 (by kernel_rfl) ?_
                refine ld rfl .no Fx.ag22 (.u rfl) (fun _ => Rd.own (.there (.there (.there (.there .here)))) nine_a) ?_
                refine .nil ?_
                refine WoT.n1 5 (by kernel_rfl) ?_
                refine apS (m62) rfl Fx.se22 Fx.zv48 rfl (.u rfl) (.u rfl) (.there (.there (.there .here))) .here (Meta.len _) (Meta.one _) (by have := hbd c3.2; omega) (by have := hbd c3.2; unfold maxLen; omega) ?_; intro v64 ov64
                refine .nil ?_
                refine WoT.n1 6 (by kernel_rfl) ?_
                refine fz rfl .no FxVeDa.fo32_5 (.u rfl) ?_
                refine .nil ?_
                refine WoT.n1 7 (by kernel_rfl) ?_
                refine s1v rfl (.u rfl) (.u rfl) .here Fx.sz22 (.there (.there (.there (.there .here)))) (by first | decide | (simp only [List.length_append, nine_len, List.length_cons, List.length_nil]; omega)) (nine_sa) ?_
                refine .nil ?_
                refine WoT.last (by kernel_rfl) ?_
                refine .blk ?_
                refine .code ?_
                refine Wk.rg [0, 1, 2] rfl rfl ?_
                refine mv rfl .no (.u rfl) ?_
                refine ar rfl .no (.u rfl) (.u rfl) rfl (fun _ => wrap_u64 (by omega) (by omega)) ?_
                refine asg rfl .no (.u rfl) ?_
                refine .nil ?_
                refine We.lpo (n - 1, v64, L62, e62, s62, bad62, add ++ [m62]) ?_ ?_ ?_ ?_ ?_
                · exact (ESub.cons rfl (evi (by omega)) (ESub.cons rfl rfl (ESub.cons rfl rfl (ESub.cons rfl rfl ESub.nil))))
                · exact (MSub.cons (.there (.there (.there .here))) rfl (MSub.cons (.there (.there (.there .here))) rfl (MSub.cons (.there .here) rfl (MSub.cons .here rfl (MSub.cons (.there .here) rfl (MSub.cons (.there .here) rfl MSub.nil))))))
                · first | omega | (dsimp only; omega)
                · exact (hGl2).trans hG62
                · refine ⟨?_, ?_, ?_, ?_, ?_⟩
                  · (try dsimp only) <;> (rw [List.length_append]; show _ + (_ + 1) = _; omega)
                  · (try dsimp only) <;> (exact hR3.step (by omega) hM62)
                  · (try dsimp only) <;> (exact fun _ => hbd c3.2)
                  · (try dsimp only) <;> (first | omega | rfl | assumption | (simp; done))
                  · (try dsimp only) <;> (exact hs62)
        · refine mv rfl .no (.u rfl) ?_
          refine .nil ?_
          refine WoT.n2 0 3 (by kernel_rfl) ?_ ?_
          · refine fz rfl .no FxVeDa.fo32_5 (.u rfl) ?_
            refine .nil ?_
            refine WoT.n2 1 3 (by kernel_rfl) ?_ ?_
            · refine ld rfl .no Fx.ag22 (.u rfl) (fun _ => Rd.own (.there (.there (.there .here))) nine_a) ?_
              refine .nil ?_
              refine WoT.n1 3 (by kernel_rfl) ?_
              refine ka rfl (.inr rfl) Fx.go38 (Eva.cons (.u rfl) Eva.nil) (mtk2 .here .here) (meta_ok L3 e3 bad3 s3 b15 b13 _ hsl3 (by omega)) ?_
              rintro _ G62 μ62 hG62 ⟨m62, L62, e62, s62, bad62, hM62, lL62, rfl, rfl, hs62⟩
              have hs := hs.mono hG62
              have hs13 := hs13.mono hG62
              have hsl := hsl.mono hG62
              have hsl2 := hsl2.mono hG62
              have hs47 := hs47.mono hG62
              have hsl3 := hsl3.mono hG62
              refine .nil ?_
              refine WoT.n1 4 (by kernel_rfl) ?_
              refine Go.Tan.b1 rfl Fx.se22 Fx.zv48 (.u rfl) rfl rfl (by decide) ?_; intro b63
              refine .nil ?_
              refine WoT.n1 5 (by kernel_rfl) ?_
              refine apS (m62) rfl Fx.se22 Fx.zv48 rfl (.u rfl) (.u rfl) (.there (.there (.there .here))) .here (Meta.len _) (Meta.one _) (by have := hbd c3.2; omega) (by have := hbd c3.2; unfold maxLen; omega) ?_; intro v64 ov64
              refine .nil ?_
              refine WoT.n1 6 (by kernel_rfl) ?_
              refine fz rfl .no FxVeDa.fo32_5 (.u rfl) ?_
              refine .nil ?_
              refine WoT.n1 7 (by kernel_rfl) ?_
              refine s1v rfl (.u rfl) (.u rfl) .here Fx.sz22 (.there (.there (.there (.there .here)))) (by first | decide | (simp only [List.length_append, nine_len, List.length_cons, List.length_nil]; omega)) (nine_sa) ?_
              refine .nil ?_
              refine WoT.last (by kernel_rfl) ?_
              refine .blk ?_
              refine .code ?_
              refine Wk.rg [0, 1, 2] rfl rfl ?_
              refine mv rfl .no (.u rfl) ?_
              refine ar rfl .no (.u rfl) (.u rfl) rfl (fun _ => wrap_u64 (by omega) (by omega)) ?_
              refine asg rfl .no (.u rfl) ?_
              refine .nil ?_
              refine We.lpo (n - 1, v64, L62, e62, s62, bad62, add ++ [m62]) ?_ ?_ ?_ ?_ ?_
              · exact (ESub.cons rfl (evi (by omega)) (ESub.cons rfl rfl (ESub.cons rfl rfl (ESub.cons rfl rfl ESub.nil))))
              · exact (MSub.cons (.there (.there (.there .here))) rfl (MSub.cons (.there (.there (.there .here))) rfl (MSub.cons (.there .here) rfl (MSub.cons .here rfl (MSub.cons (.there .here) rfl (MSub.cons (.there .here) rfl MSub.nil))))))
              · first | omega | (dsimp only; omega)
              · exact (hGl2).trans hG62
              · refine ⟨?_, ?_, ?_, ?_, ?_⟩
                · (try dsimp only) <;> (rw [List.length_append]; show _ + (_ + 1) = _; omega)
                · (try dsimp only) <;> (exact hR3.step (by omega) hM62)
                · (try dsimp only) <;> (exact fun _ => hbd c3.2)
                · (try dsimp only) <;> (first | omega | rfl | assumption | (simp; done))
                · (try dsimp only) <;> (exact hs62)
            · refine ka rfl (.inr rfl) Fx.go38 (Eva.cons (.u rfl) Eva.nil) (mtk2 .here .here) (meta_ok L3 e3 bad3 s3 b15 b13 _ hsl3 (by omega)) ?_
              rintro _ G62 μ62 hG62 ⟨m62, L62, e62, s62, bad62, hM62, lL62, rfl, rfl, hs62⟩
              have hs := hs.mono hG62
              have hs13 := hs13.mono hG62
              have hsl := hsl.mono hG62
              have hsl2 := hsl2.mono hG62
              have hs47 := hs47.mono hG62
              have hsl3 := hsl3.mono hG62
              refine .nil ?_
              refine WoT.n2 1 4 (by kernel_rfl) ?_ ?_
              · refine ld rfl .no Fx.ag22 (.u rfl) (fun _ => Rd.own (.there (.there (.there .here))) nine_a) ?_
                refine .nil ?_
                refine WoT.n1 4 (by kernel_rfl) ?_
                refine Go.Tan.b1 rfl Fx.se22 Fx.zv48 (.u rfl) rfl rfl (by decide) ?_; intro b63
                refine .nil ?_
                refine WoT.n1 5 (by kernel_rfl) ?_
                refine apS (m62) rfl Fx.se22 Fx.zv48 rfl (.u rfl) (.u rfl) (.there (.there (.there .here))) .here (Meta.len _) (Meta.one _) (by have := hbd c3.2; omega) (by have := hbd c3.2; unfold maxLen; omega) ?_; intro v64 ov64
                refine .nil ?_
                refine WoT.n1 6 (by kernel_rfl) ?_
                refine fz rfl .no FxVeDa.fo32_5 (.u rfl) ?_
                refine .nil ?_
                refine WoT.n1 7 (by kernel_rfl) ?_
                refine s1v rfl (.u rfl) (.u rfl) .here Fx.sz22 (.there (.there (.there (.there .here)))) (by first | decide | (simp only [List.length_append, nine_len, List.length_cons, List.length_nil]; omega)) (nine_sa) ?_
                refine .nil ?_
                refine WoT.last (by kernel_rfl) ?_
                refine .blk ?_
                refine .code ?_
                refine Wk.rg [0, 1, 2] rfl rfl ?_
                refine mv rfl .no (.u rfl) ?_
                refine ar rfl .no (.u rfl) (.u rfl) rfl (fun _ => wrap_u64 (by omega) (by omega)) ?_
                refine asg rfl .no (.u rfl) ?_
                refine .nil ?_
                refine We.lpo (n - 1, v64, L62, e62, s62, bad62, add ++ [m62]) ?_ ?_ ?_ ?_ ?_
                · exact (ESub.cons rfl (evi (by omega)) (ESub.cons rfl rfl (ESub.cons rfl rfl (ESub.cons rfl rfl ESub.nil))))
                · exact (MSub.cons (.there (.there (.there .here))) rfl (MSub.cons (.there (.there (.there .here))) rfl (MSub.cons (.there .here) rfl (MSub.cons .here rfl (MSub.cons (.there .here) rfl (MSub.cons (.there .here) rfl MSub.nil))))))
                · first | omega | (dsimp only; omega)
                · exact (hGl2).trans hG62
                · refine ⟨?_, ?_, ?_, ?_, ?_⟩
                  · (try dsimp only) <;> (rw [List.length_append]; show _ + (_ + 1) = _; omega)
                  · (try dsimp only) <;> (exact hR3.step (by omega) hM62)
                  · (try dsimp only) <;> (exact fun _ => hbd c3.2)
                  · (try dsimp only) <;> (first | omega | rfl | assumption | (simp; done))
                  · (try dsimp only) <;> (exact hs62)
              · refine Go.Tan.b1 rfl Fx.se22 Fx.zv48 (.u rfl) rfl rfl (by decide) ?_; intro b63
                refine .nil ?_
                refine WoT.n1 1 (by kernel_rfl) ?_
                refine ld rfl .no Fx.ag22 (.u rfl) (fun _ => Rd.own (.there (.there (.there (.there .here)))) nine_a) ?_
                refine .nil ?_
                refine WoT.n1 5 (by kernel_rfl) ?_
                refine apS (m62) rfl Fx.se22 Fx.zv48 rfl (.u rfl) (.u rfl) (.there (.there (.there .here))) .here (Meta.len _) (Meta.one _) (by have := hbd c3.2; omega) (by have := hbd c3.2; unfold maxLen; omega) ?_; intro v64 ov64
                refine .nil ?_
                refine WoT.n1 6 (by kernel_rfl) ?_
                refine fz rfl .no FxVeDa.fo32_5 (.u rfl) ?_
                refine .nil ?_
                refine WoT.n1 7 (by kernel_rfl) ?_
                refine s1v rfl (.u rfl) (.u rfl) .here Fx.sz22 (.there (.there (.there (.there .here)))) (by first | decide | (simp only [List.length_append, nine_len, List.length_cons, List.length_nil]; omega)) (nine_sa) ?_
                refine .nil ?_
                refine WoT.last (by kernel_rfl) ?_
                refine .blk ?_
                refine .code ?_
                refine Wk.rg [0, 1, 2] rfl rfl ?_
                refine mv rfl .no (.u rfl) ?_
                refine ar rfl .no (.u rfl) (.u rfl) rfl (fun _ => wrap_u64 (by omega) (by omega)) ?_
                refine asg rfl .no (.u rfl) ?_
                refine .nil ?_
                refine We.lpo (n - 1, v64, L62, e62, s62, bad62, add ++ [m62]) ?_ ?_ ?_ ?_ ?_
                · exact (ESub.cons rfl (evi (by omega)) (ESub.cons rfl rfl (ESub.cons rfl rfl (ESub.cons rfl rfl ESub.nil))))
                · exact (MSub.cons (.there (.there (.there .here))) rfl (MSub.cons (.there (.there (.there .here))) rfl (MSub.cons (.there .here) rfl (MSub.cons .here rfl (MSub.cons (.there .here) rfl (MSub.cons (.there .here) rfl MSub.nil))))))
                · first | omega | (dsimp only; omega)
                · exact (hGl2).trans hG62
                · refine ⟨?_, ?_, ?_, ?_, ?_⟩
                  · (try dsimp only) <;> (rw [List.length_append]; show _ + (_ + 1) = _; omega)
                  · (try dsimp only) <;> (exact hR3.step (by omega) hM62)
                  · (try dsimp only) <;> (exact fun _ => hbd c3.2)
                  · (try dsimp only) <;> (first | omega | rfl | assumption | (simp; done))
                  · (try dsimp only) <;> (exact hs62)
          · refine ka rfl (.inr rfl) Fx.go38 (Eva.cons (.u rfl) Eva.nil) (mtk2 .here .here) (meta_ok L3 e3 bad3 s3 b15 b13 _ hsl3 (by omega)) ?_
            rintro _ G62 μ62 hG62 ⟨m62, L62, e62, s62, bad62, hM62, lL62, rfl, rfl, hs62⟩
            have hs := hs.mono hG62
            have hs13 := hs13.mono hG62
            have hsl := hsl.mono hG62
            have hsl2 := hsl2.mono hG62
            have hs47 := hs47.mono hG62
            have hsl3 := hsl3.mono hG62
            refine .nil ?_
            refine WoT.n2 0 4 (by kernel_rfl) ?_ ?_
            · refine fz rfl .no FxVeDa.fo32_5 (.u rfl) ?_
              refine .nil ?_
              refine WoT.n2 1 4 (by kernel_rfl) ?_ ?_
              · refine ld rfl .no Fx.ag22 (.u rfl) (fun _ => Rd.own (.there (.there (.there .here))) nine_a) ?_
                refine .nil ?_
                refine WoT.n1 4 (by kernel_rfl) ?_
                refine Go.Tan.b1 rfl Fx.se22 Fx.zv48 (.u rfl) rfl rfl (by decide) ?_; intro b63
                refine .nil ?_
                refine WoT.n1 5 (by kernel_rfl) ?_
                refine apS (m62) rfl Fx.se22 Fx.zv48 rfl (.u rfl) (.u rfl) (.there (.there (.there .here))) .here (Meta.len _) (Meta.one _) (by have := hbd c3.2; omega) (by have := hbd c3.2; unfold maxLen; omega) ?_; intro v64 ov64
                refine .nil ?_
                refine WoT.n1 6 (by kernel_rfl) ?_
                refine fz rfl .no FxVeDa.fo32_5 (.u rfl) ?_
                refine .nil ?_
                refine WoT.n1 7 (by kernel_rfl) ?_
                refine s1v rfl (.u rfl) (.u rfl) .here Fx.sz22 (.there (.there (.there (.there .here)))) (by first | decide | (simp only [List.length_append, nine_len, List.length_cons, List.length_nil]; omega)) (nine_sa) ?_
                refine .nil ?_
                refine WoT.last (by kernel_rfl) ?_
                refine .blk ?_
                refine .code ?_
                refine Wk.rg [0, 1, 2] rfl rfl ?_
                refine mv rfl .no (.u rfl) ?_
                refine ar rfl .no (.u rfl) (.u rfl) rfl (fun _ => wrap_u64 (by omega) (by omega)) ?_
                refine asg rfl .no (.u rfl) ?_
                refine .nil ?_
                refine We.lpo (n - 1, v64, L62, e62, s62, bad62, add ++ [m62]) ?_ ?_ ?_ ?_ ?_
                · exact (ESub.cons rfl (evi (by omega)) (ESub.cons rfl rfl (ESub.cons rfl rfl (ESub.cons rfl rfl ESub.nil))))
                · exact (MSub.cons (.there (.there (.there .here))) rfl (MSub.cons (.there (.there (.there .here))) rfl (MSub.cons (.there .here) rfl (MSub.cons .here rfl (MSub.cons (.there .here) rfl (MSub.cons (.there .here) rfl MSub.nil))))))
                · first | omega | (dsimp only; omega)
                · exact (hGl2).trans hG62
                · refine ⟨?_, ?_, ?_, ?_, ?_⟩
                  · (try dsimp only) <;> (rw [List.length_append]; show _ + (_ + 1) = _; omega)
                  · (try dsimp only) <;> (exact hR3.step (by omega) hM62)
                  · (try dsimp only) <;> (exact fun _ => hbd c3.2)
                  · (try dsimp only) <;> (first | omega | rfl | assumption | (simp; done))
                  · (try dsimp only) <;> (exact hs62)
              · refine Go.Tan.b1 rfl Fx.se22 Fx.zv48 (.u rfl) rfl rfl (by decide) ?_; intro b63
                refine .nil ?_
                refine WoT.n1 1 (by kernel_rfl) ?_
                refine ld rfl .no Fx.ag22 (.u rfl) (fun _ => Rd.own (.there (.there (.there (.there .here)))) nine_a) ?_
                refine .nil ?_
                refine WoT.n1 5 (by kernel_rfl) ?_
                refine apS (m62) rfl Fx.se22 Fx.zv48 rfl (.u rfl) (.u rfl) (.there (.there (.there .here))) .here (Meta.len _) (Meta.one _) (by have := hbd c3.2; omega) (by have := hbd c3.2; unfold maxLen; omega) ?_; intro v64 ov64
                refine .nil ?_
                refine WoT.n1 6 (by kernel_rfl) ?_
                refine fz rfl .no FxVeDa.fo32_5 (.u rfl) ?_
                refine .nil ?_
                refine WoT.n1 7 (by kernel_rfl) ?_
                refine s1v rfl (.u rfl) (.u rfl) .here Fx.sz22 (.there (.there (.there (.there .here)))) (by first | decide | (simp only [List.length_append, nine_len, List.length_cons, List.length_nil]; omega)) (nine_sa) ?_
                refine .nil ?_
                refine WoT.last (by kernel_rfl) ?_
                refine .blk ?_
                refine .code ?_
                refine Wk.rg [0, 1, 2] rfl rfl ?_
                refine mv rfl .no (.u rfl) ?_
                refine ar rfl .no (.u rfl) (.u rfl) rfl (fun _ => wrap_u64 (by omega) (by omega)) ?_
                refine asg rfl .no (.u rfl) ?_
                refine .nil ?_
                refine We.lpo (n - 1, v64, L62, e62, s62, bad62, add ++ [m62]) ?_ ?_ ?_ ?_ ?_
                · exact (ESub.cons rfl (evi (by omega)) (ESub.cons rfl rfl (ESub.cons rfl rfl (ESub.cons rfl rfl ESub.nil))))
                · exact (MSub.cons (.there (.there (.there .here))) rfl (MSub.cons (.there (.there (.there .here))) rfl (MSub.cons (.there .here) rfl (MSub.cons .here rfl (MSub.cons (.there .here) rfl (MSub.cons (.there .here) rfl MSub.nil))))))
                · first | omega | (dsimp only; omega)
                · exact (hGl2).trans hG62
                · refine ⟨?_, ?_, ?_, ?_, ?_⟩
                  · (try dsimp only) <;> (rw [List.length_append]; show _ + (_ + 1) = _; omega)
                  · (try dsimp only) <;> (exact hR3.step (by omega) hM62)
                  · (try dsimp only) <;> (exact fun _ => hbd c3.2)
                  · (try dsimp only) <;> (first | omega | rfl | assumption | (simp; done))
                  · (try dsimp only) <;> (exact hs62)
            · refine Go.Tan.b1 rfl Fx.se22 Fx.zv48 (.u rfl) rfl rfl (by decide) ?_; intro b63
              refine .nil ?_
              refine WoT.n1 0 (by kernel_rfl) ?_
              refine fz rfl .no FxVeDa.fo32_5 (.u rfl) ?_
              refine .nil ?_
              refine WoT.n1 1 (by kernel_rfl) ?_
              refine ld rfl .no Fx.ag22 (.u rfl) (fun _ => Rd.own (.there (.there (.there (.there .here)))) nine_a) ?_
              refine .nil ?_
              refine WoT.n1 5 (by kernel_rfl) ?_
              refine apS (m62) rfl Fx.se22 Fx.zv48 rfl (.u rfl) (.u rfl) (.there (.there (.there .here))) .here (Meta.len _) (Meta.one _) (by have := hbd c3.2; omega) (by have := hbd c3.2; unfold maxLen; omega) ?_; intro v64 ov64
              refine .nil ?_
              refine WoT.n1 6 (by kernel_rfl) ?_
              refine fz rfl .no FxVeDa.fo32_5 (.u rfl) ?_
              refine .nil ?_
              refine WoT.n1 7 (by kernel_rfl) ?_
              refine s1v rfl (.u rfl) (.u rfl) .here Fx.sz22 (.there (.there (.there (.there .here)))) (by first | decide | (simp only [List.length_append, nine_len, List.length_cons, List.length_nil]; omega)) (nine_sa) ?_
              refine .nil ?_
              refine WoT.last (by kernel_rfl) ?_
              refine .blk ?_
              refine .code ?_
              refine Wk.rg [0, 1, 2] rfl rfl ?_
              refine mv rfl .no (.u rfl) ?_
              refine ar rfl .no (.u rfl) (.u rfl) rfl (fun _ => wrap_u64 (by omega) (by omega)) ?_
              refine asg rfl .no (.u rfl) ?_
              refine .nil ?_
              refine We.lpo (n - 1, v64, L62, e62, s62, bad62, add ++ [m62]) ?_ ?_ ?_ ?_ ?_
              · exact (ESub.cons rfl (evi (by omega)) (ESub.cons rfl rfl (ESub.cons rfl rfl (ESub.cons rfl rfl ESub.nil))))
              · exact (MSub.cons (.there (.there (.there .here))) rfl (MSub.cons (.there (.there (.there .here))) rfl (MSub.cons (.there .here) rfl (MSub.cons .here rfl (MSub.cons (.there .here) rfl (MSub.cons (.there .here) rfl MSub.nil))))))
              · first | omega | (dsimp only; omega)
              · exact (hGl2).trans hG62
              · refine ⟨?_, ?_, ?_, ?_, ?_⟩
                · (try dsimp only) <;> (rw [List.length_append]; show _ + (_ + 1) = _; omega)
                · (try dsimp only) <;> (exact hR3.step (by omega) hM62)
                · (try dsimp only) <;> (exact fun _ => hbd c3.2)
                · (try dsimp only) <;> (first | omega | rfl | assumption | (simp; done))
                · (try dsimp only) <;> (exact hs62)
      · have c3k := c3
        try simp only [decide_eq_true_eq, decide_eq_false_iff_not, Int.not_lt, Int.not_le, gt_iff_lt, ge_iff_le, Bool.or_eq_true, Bool.and_eq_true, Bool.or_eq_false_iff, Bool.and_eq_false_iff, Bool.not_eq_true', Bool.not_eq_false', Int.toNat_natCast, bne_iff_ne, beq_iff_eq, bne_eq_false_iff_eq, beq_eq_false_iff_ne, ne_eq] at c3
        refine .exit ?_
        refine .xcode ?_
        refine .xlp ?_
        refine .xblk ?_
        refine .code ?_
        refine .seq ?_
        refine .seq ?_
        have hT2 := dec_c hT1 hR3 hn3 (by first | exact c3.imp (fun h => by omega) (fun h => h) | (rcases c3 with c3 | c3; (exact .inl (by omega)); (exact .inr (by simpa using c3))))
        refine wk_nilS 2 Gone.cells 51 ?_
        refine Wk.rg [0, 1, 2] rfl rfl ?_
        refine mv rfl .no (.u rfl) ?_
        refine ka rfl (.inr rfl) Fx.go37 (Eva.cons (.u rfl) (Eva.cons (.u rfl) Eva.nil)) (mtk2 (.there .here) (.there .here)) (upTo_ok L3 e3 bad3 s3 b15 b13 _ hsl3 (by omega) 1024) ?_
        rintro _ G67 μ67 hG67 ⟨n67, L67, e67, s67, bad67, hN67, hb67, rfl, rfl, hs67⟩
        have lL67 := rdnum_le hN67; have nL67 := rdnum_lt hN67; simp only at lL67
        have hs := hs.mono hG67
        have hs13 := hs13.mono hG67
        have hsl := hsl.mono hG67
        have hsl2 := hsl2.mono hG67
        have hs47 := hs47.mono hG67
        have hsl3 := hsl3.mono hG67
        refine asg rfl .no (.u rfl) ?_
        refine .nil ?_
        refine .code ?_
        refine .block ?_
        have hT3 := dec_d hT2 hN67 hb67
        refine Wk.lop (α := Nat × Value × List Y × Int × Sh × Bool × List Gone) (fun gh => [(10, true, .int .u64 (gh.1 : Int))]) (fun gh => [.blk b15 (cl [.pointer (some ⟨b13, 0, none⟩), .bool gh.2.2.2.2.2.1] 69), .blk b13 (cl [Sh.val gh.2.2.2.2.1 gh.2.2.1.length, .int .i64 gh.2.2.2.1] 101), rS 2 Gone.cells gh.2.1 51 gh.2.2.2.2.2.2, .blk b5 (cl (nine g2 ++ [va, gh.2.1]) 32)])
          (fun gh Gl => (gh.1 + gh.2.2.2.2.2.2.length = n67) ∧ (RpR (fun α => @pGone α) n67 ⟨L67, e67⟩ ⟨gh.2.2.1, gh.2.2.2.1⟩ bad67 gh.2.2.2.2.2.1 gh.2.2.2.2.2.2) ∧ (gh.2.2.2.2.2.1 = false → n67 ≤ 1024) ∧ (gh.2.2.1.length ≤ xs.length) ∧ (SlR Gl 1 encY gh.2.2.2.2.1 gh.2.2.1)) (fun gh => gh.1) (n67, .slice none 0 0, L67, e67, s67, bad67, []) [(2, true, _), (4, true, _), (5, true, _)] [_, _, _]
          (ESub.cons rfl rfl (ESub.cons rfl rfl (ESub.cons rfl rfl (ESub.cons rfl rfl ESub.nil))))
          (MSub.cons .here rfl (MSub.cons .here rfl (MSub.cons .here rfl (MSub.cons (.there .here) rfl (MSub.cons .here rfl (MSub.cons .here rfl (MSub.cons .here rfl MSub.nil))))))) ?_ ?_
        · refine ⟨?_, ?_, ?_, ?_, ?_⟩
          · (try dsimp only) <;> (first | omega | rfl | assumption | (simp; done))
          · (try dsimp only) <;> (exact RpR.zero)
          · (try dsimp only) <;> (exact fun h => up_le hb67 h)
          · (try dsimp only) <;> (first | omega | rfl | assumption | (simp; done))
          · (try dsimp only) <;> (exact hs67)
        intro gh N3 Gl3 hN3 hGl3 hF3
        obtain ⟨q, vd, L4, e4, s4, bad4, dr⟩ := gh; dsimp only at hF3 hN3 ⊢
        obtain ⟨hn4, hR4, hbd4, lL4, hsl4⟩ := hF3
        have hs := hs.mono hGl3
        have hs13 := hs13.mono hGl3
        have hsl := hsl.mono hGl3
        have hsl2 := hsl2.mono hGl3
        have hs47 := hs47.mono hGl3
        have hsl3 := hsl3.mono hGl3
        have hs67 := hs67.mono hGl3
        refine .seq ?_
        refine .seq ?_
        refine Wk.rg [0, 1, 2, 3, 4, 5, 6, 7, 8] rfl rfl ?_
        refine mv rfl .no (.u rfl) ?_
        refine cp rfl .no (.u rfl) (.u rfl) rfl ?_
        refine mv rfl .no (.u rfl) ?_
        refine mv rfl (.t rfl rfl) (.u rfl) ?_
        refine nc rfl (.t rfl rfl) (.s rfl) ?_
        refine fz rfl (.t rfl rfl) Fx.fo69_1 (.s rfl) ?_
        refine ld rfl (.t rfl rfl) Fx.ag4 (.s rfl) (fun hc => Rd.own .here (by first | exact wap_f rfl | rfl)) ?_
        refine nt rfl (.t rfl rfl) (.s rfl) ?_
        refine pkA rfl .no (.u rfl) (.s rfl) ?_
        refine .nil ?_
        refine .code ?_
        refine .cond rfl (fun c4 => ?_) (fun c4 => ?_)
        · have c4k := c4
          try simp only [decide_eq_true_eq, decide_eq_false_iff_not, Int.not_lt, Int.not_le, gt_iff_lt, ge_iff_le, Bool.or_eq_true, Bool.and_eq_true, Bool.or_eq_false_iff, Bool.and_eq_false_iff, Bool.not_eq_true', Bool.not_eq_false', Int.toNat_natCast, bne_iff_ne, beq_iff_eq, bne_eq_false_iff_eq, beq_eq_false_iff_ne, ne_eq] at c4
          refine .skip ?_
          refine .code ?_
          refine .seq ?_
          refine .block ?_
          refine .seq ?_
          refine Wk.rg [0, 1, 2, 3, 4, 5] rfl rfl ?_
          refine mv rfl .no (.u rfl) ?_
          refine ka rfl (.inr rfl) Fx.go37 (Eva.cons (.u rfl) (Eva.cons (.u rfl) Eva.nil)) (mtk2 .here .here) (upTo_ok L4 e4 bad4 s4 b15 b13 _ hsl4 (by omega) 255) ?_
          rintro _ G80 μ80 hG80 ⟨n80, L80, e80, s80, bad80, hN80, hb80, rfl, rfl, hs80⟩
          have lL80 := rdnum_le hN80; have nL80 := rdnum_lt hN80; simp only at lL80
          have hs := hs.mono hG80
          have hs13 := hs13.mono hG80
          have hsl := hsl.mono hG80
          have hsl2 := hsl2.mono hG80
          have hs47 := hs47.mono hG80
          have hsl3 := hsl3.mono hG80
          have hs67 := hs67.mono hG80
          have hsl4 := hsl4.mono hG80
          refine cv rfl .no Fx.cv24_5 (.u rfl) ?_
          refine bCe ([.int .u8 (IntKind.u8.wrap (n80 : Int)), .int .u64 0]) rfl .no Fx.bp51_0 (.cons (.u rfl) rfl .nil) rfl (rfl) ?_
          refine al rfl Fx.zr51 ?_; intro b11
          refine sw rfl (.u rfl) (.u rfl) rfl Fx.sz51 .here (by first | exact nine2_len | exact nine2_len.trans nine2_len.symm | rfl) (one2 rfl rfl) ?_
          refine .nil ?_
          refine .code ?_
          refine .seq ?_
          refine Wk.rg [0, 1, 2, 3, 4, 5, 6] rfl rfl ?_
          refine mv rfl .no (.u rfl) ?_
          refine nc rfl .no (.u rfl) ?_
          refine fz rfl .no Fx.fo69_0 (.u rfl) ?_
          refine ld rfl .no Fx.ag66 (.u rfl) (fun _ => Rd.own (.there .here) (by first | exact wap_f rfl | rfl)) ?_
          refine ka rfl (.inr rfl) Fx.go36 (Eva.cons (.u rfl) Eva.nil) (mtk1 (.there (.there .here))) (rNum_ok L80 e80 s80 b13 _ hs80 (by omega)) ?_
          rintro _ G87 μ87 hG87 ⟨n87, L87, e87, s87, hN87, rfl, rfl, hs87⟩
          have lL87 := rdnum_le hN87; have nL87 := rdnum_lt hN87; simp only at lL87
          have hs := hs.mono hG87
          have hs13 := hs13.mono hG87
          have hsl := hsl.mono hG87
          have hsl2 := hsl2.mono hG87
          have hs47 := hs47.mono hG87
          have hsl3 := hsl3.mono hG87
          have hs67 := hs67.mono hG87
          have hsl4 := hsl4.mono hG87
          have hs80 := hs80.mono hG87
          refine fz rfl .no Fx.fo51_1 (.u rfl) ?_
          refine s1 rfl (.u rfl) (.u rfl) rfl Fx.sz24 (.there .here) (by first | decide | (simp only [List.length_append, nine_len, List.length_cons, List.length_nil]; omega)) (rfl) ?_
          refine .nil ?_
          refine .code ?_
          refine Wk.rg [0, 1, 2, 3, 4, 5, 6] rfl rfl ?_
          refine fz rfl .no FxVeDa.fo32_6 (.u rfl) ?_
          refine ld rfl .no FxVeDa.ag30 (.u rfl) (fun _ => Rd.own (.there (.there (.there (.there .here)))) nine_d) ?_
          refine lA rfl .no Fx.ag51 (.u rfl) (fun _ => RdN.own .here) (fun _ => (by first | exact nine2_len | exact nine2_len.trans nine2_len.symm | rfl)) ?_
          refine Go.Tan.b1 rfl FxVeDa.se30 Fx.zv51 (.u rfl) rfl rfl (by decide) ?_; intro b92
          refine apS ((⟨IntKind.u8.wrap (n80 : Int), (n87 : Int)⟩ : Gone)) rfl FxVeDa.se30 Fx.zv51 rfl (.u rfl) (.u rfl) (.there (.there (.there (.there .here)))) .here (rfl) (gones1) (by have := hbd4 c4.2; omega) (by have := hbd4 c4.2; unfold maxLen; omega) ?_; intro v93 ov93
          refine fz rfl .no FxVeDa.fo32_6 (.u rfl) ?_
          refine s1v rfl (.u rfl) (.u rfl) .here Fx.sz30 (.there (.there (.there (.there (.there .here))))) (by first | decide | (simp only [List.length_append, nine_len, List.length_cons, List.length_nil]; omega)) (nine_sd) ?_
          refine .nil ?_
          refine .blk ?_
          refine .code ?_
          refine Wk.rg [0, 1, 2] rfl rfl ?_
          refine mv rfl .no (.u rfl) ?_
          refine ar rfl .no (.u rfl) (.u rfl) rfl (fun _ => wrap_u64 (by omega) (by omega)) ?_
          refine asg rfl .no (.u rfl) ?_
          refine .nil ?_
          refine We.lpo (q - 1, v93, L87, e87, s87, bad80, dr ++ [⟨IntKind.u8.wrap (n80 : Int), (n87 : Int)⟩]) ?_ ?_ ?_ ?_ ?_
          · exact (ESub.cons rfl (evi (by omega)) (ESub.cons rfl rfl (ESub.cons rfl rfl (ESub.cons rfl rfl ESub.nil))))
          · exact (MSub.cons (.there (.there (.there (.there (.there .here))))) rfl (MSub.cons (.there (.there (.there (.there .here)))) rfl (MSub.cons (.there .here) rfl (MSub.cons .here rfl (MSub.cons (.there (.there .here)) rfl (MSub.cons (.there (.there .here)) rfl (MSub.cons (.there (.there .here)) rfl MSub.nil)))))))
          · first | omega | (dsimp only; omega)
          · exact ((hGl3).trans hG80).trans hG87
          · refine ⟨?_, ?_, ?_, ?_, ?_⟩
            · (try dsimp only) <;> (rw [List.length_append]; show _ + (_ + 1) = _; omega)
            · (try dsimp only) <;> (exact hR4.step (by omega) (goneT hN80 hb80 w_u8 hN87))
            · (try dsimp only) <;> (exact fun _ => hbd4 c4.2)
            · (try dsimp only) <;> (first | omega | rfl | assumption | (simp; done))
            · (try dsimp only) <;> (exact hs87)
        · have c4k := c4
          try simp only [decide_eq_true_eq, decide_eq_false_iff_not, Int.not_lt, Int.not_le, gt_iff_lt, ge_iff_le, Bool.or_eq_true, Bool.and_eq_true, Bool.or_eq_false_iff, Bool.and_eq_false_iff, Bool.not_eq_true', Bool.not_eq_false', Int.toNat_natCast, bne_iff_ne, beq_iff_eq, bne_eq_false_iff_eq, beq_eq_false_iff_ne, ne_eq] at c4
          refine .exit ?_
          refine .xcode ?_
          refine .xlp ?_
          refine .xblk ?_
          refine .code ?_
          refine .seq ?_
          refine .seq ?_
          have hT4 := dec_e hT3 hR4 hn4 (by first | exact c4.imp (fun h => by omega) (fun h => h) | (rcases c4 with c4 | c4; (exact .inl (by omega)); (exact .inr (by simpa using c4))))
          refine Wk.rg [0, 1, 2, 3, 4, 5, 6, 7, 8, 9, 10, 11] rfl rfl ?_
          refine mv rfl .no (.u rfl) ?_
          refine nc rfl .no (.u rfl) ?_
          refine fz rfl .no Fx.fo69_1 (.u rfl) ?_
          refine ld rfl .no Fx.ag4 (.u rfl) (fun _ => Rd.own .here (by first | exact wap_f rfl | rfl)) ?_
          refine mv rfl .no (.u rfl) ?_
          refine mv rfl (.f rfl rfl) (.u rfl) ?_
          refine nc rfl (.f rfl rfl) (.s rfl) ?_
          refine fz rfl (.f rfl rfl) Fx.fo69_0 (.s rfl) ?_
          refine ld rfl (.f rfl rfl) Fx.ag66 (.s rfl) (fun hc => Rd.own .here (by first | exact wap_f rfl | rfl)) ?_
          refine kp rfl (.f rfl rfl) Fx.go39 (Eva.cons (.s rfl) Eva.nil) (Gp.add (.there .here) Gp.nil) (fun hc hle hq => rEnd_ok L4 e4 s4 b13 _ RdNP.add) ?_
          refine cp rfl (.f rfl rfl) (.s rfl) (.u rfl) rfl ?_
          refine pkO rfl .no (.u rfl) (.s rfl) ?_
          refine .nil ?_
          refine .code ?_
          refine .cond rfl (fun c5 => ?_) (fun c5 => ?_)
          · have c5k := c5
            try simp only [decide_eq_true_eq, decide_eq_false_iff_not, Int.not_lt, Int.not_le, gt_iff_lt, ge_iff_le, Bool.or_eq_true, Bool.and_eq_true, Bool.or_eq_false_iff, Bool.and_eq_false_iff, Bool.not_eq_true', Bool.not_eq_false', Int.toNat_natCast, bne_iff_ne, beq_iff_eq, bne_eq_false_iff_eq, beq_eq_false_iff_ne, ne_eq] at c5
            refine .seq ?_
            refine Wk.rg [0, 1, 2] rfl rfl ?_
            refine bC rfl .no Fx.bp32_ .nil rfl ?_
            refine sw rfl (.u rfl) (.u rfl) rfl Fx.sz32 (.there (.there (.there (.there (.there (.there .here)))))) (by first | exact nine2_len | exact nine2_len.trans nine2_len.symm | rfl) (nine_one rfl rfl) ?_
            refine asg rfl .no (.u rfl) ?_
            refine .nil ?_
            refine .code ?_
            refine .ret ?_
            refine We.fin0 Try.results15 (.cell rfl (fun w hw => run_loadVarN Fx.ag32 (RdN.own .here) ((by first | exact nine2_len | exact nine2_len.trans nine2_len.symm | rfl)) hw) (.tmp rfl .nil)) ?_
            exact ⟨Edit.zero, 180, ⟨none, 0⟩, ⟨none, 0⟩, .inr ⟨dec_no hT4 (by first | exact c5.imp id id | simpa using c5k), rfl, rfl⟩, rfl, rfl, EdR.zero⟩
          · have c5k := c5
            try simp only [decide_eq_true_eq, decide_eq_false_iff_not, Int.not_lt, Int.not_le, gt_iff_lt, ge_iff_le, Bool.or_eq_true, Bool.and_eq_true, Bool.or_eq_false_iff, Bool.and_eq_false_iff, Bool.not_eq_true', Bool.not_eq_false', Int.toNat_natCast, bne_iff_ne, beq_iff_eq, bne_eq_false_iff_eq, beq_eq_false_iff_ne, ne_eq] at c5
            refine .skip ?_
            refine .code ?_
            refine .seq ?_
            refine wk_fs (.there (.there (.there (.there .here)))) (fun _ _ => rfl) (by intro b hb; cases hb) ?_; intro GfRA hRA hleRA evRA hsRA; subst evRA
            have hs := hs.mono hleRA
            have hs13 := hs13.mono hleRA
            have hsl := hsl.mono hleRA
            have hsl2 := hsl2.mono hleRA
            have hs47 := hs47.mono hleRA
            have hsl3 := hsl3.mono hleRA
            have hs67 := hs67.mono hleRA
            have hsl4 := hsl4.mono hleRA
            refine wk_fs (.there (.there .here)) (fun _ _ => rfl) (by intro b hb; cases hb) ?_; intro GfRD hRD hleRD evRD hsRD; subst evRD
            have hs := hs.mono hleRD
            have hs13 := hs13.mono hleRD
            have hsl := hsl.mono hleRD
            have hsl2 := hsl2.mono hleRD
            have hs47 := hs47.mono hleRD
            have hsl3 := hsl3.mono hleRD
            have hs67 := hs67.mono hleRD
            have hsl4 := hsl4.mono hleRD
            have hsRA := hsRA.mono hleRD
            refine Wk.rg [0, 1, 2] rfl rfl ?_
            refine lA rfl .no Fx.ag32 (.u rfl) (fun _ => RdN.own (.there (.there .here))) (fun _ => (by first | exact nine2_len | exact nine2_len.trans nine2_len.symm | rfl)) ?_
            refine sw rfl (.u rfl) (.u rfl) rfl Fx.sz32 (.there (.there (.there (.there .here)))) (by first | exact nine2_len | exact nine2_len.trans nine2_len.symm | rfl) (nine_one rfl rfl) ?_
            refine asg rfl .no (.u rfl) ?_
            refine .nil ?_
            refine .code ?_
            refine .ret ?_
            refine We.fin0 Try.results15 (.cell rfl (fun w hw => run_loadVarN Fx.ag32 (RdN.own .here) ((by first | exact nine2_len | exact nine2_len.trans nine2_len.symm | rfl)) hw) (.tmp rfl .nil)) ?_
            have hO := dec_yes hT4 (by simpa using c5.1) (by simpa using c5.2)
            exact ⟨_, 0, hRA, hRD, .inl ⟨hO, rfl⟩, rfl, by rw [Edit.val, ← edE_cells eg2]; rfl, ⟨hsRA, hsRD, (edit_inv hO).2.1⟩⟩

end Go.Proofs.Ytnhdaaggkdegpaa

namespace Go.Proofs.Ytnhdaaggkdegpaa
set_option linter.unusedSimpArgs false
set_option linter.unusedVariables false
open Go.Tan Go.RowKit

namespace Fx
theorem go27 : goFn Try.prog 27 = true := by kernel_rfl
theorem go28 : goFn Try.prog 28 = true := by kernel_rfl
end Fx
theorem look_ok (s : State) (hd : Nat → Sh) (G : PM) (hs : StR G s hd) (hf : tot s 5 ≤ 1024) (us : ByteArray) : Ct Try.prog 25 ([s.val hd, .string us] : List Value).toArray G [] (fun G' μ' u => μ' = [] ∧ ∃ h : Sh, u = h.val (lookM s us 5).length ∧ SlR G' 40 Meta.cells h (lookM s us 5)) := by
  refine Ct.of Try.func25 rfl Try.ntmps25 rfl fun w0 hs0 => ?_
  refine .seq ?_
  refine Wk.rg [0, 1] rfl rfl ?_
  refine bx rfl (.u rfl) rfl ?_; intro b2
  refine asg rfl .no (.u rfl) ?_
  refine .nil ?_
  refine .code ?_
  refine .seq ?_
  refine Wk.rg [0] rfl rfl ?_
  refine asg rfl .no (.u rfl) ?_
  refine .nil ?_
  refine .code ?_
  refine .seq ?_
  refine .seq ?_
  refine Wk.rg [0] rfl rfl ?_
  refine mv rfl .no (.u rfl) ?_
  refine .nil ?_
  refine .code ?_
  refine .block ?_
  refine wk_nilRow 48 40 ?_
  refine Wk.lop (α := Nat × Value) (fun gh => [(5, true, gh.2), (7, true, .int .i64 (gh.1 : Int))]) (fun gh => [.row gh.2 48 40 (lookM s us gh.1).length ((lookM s us gh.1).flatMap Meta.cells)])
    (fun gh Gl => gh.1 ≤ 5) (fun gh => 5 - gh.1) (0, .slice none 0 0) [(1, true, _), (2, true, _)] [.blk b2 _]
    (ESub.cons rfl rfl (ESub.cons rfl rfl (ESub.cons rfl rfl (ESub.cons rfl rfl ESub.nil))))
    (MSub.cons .here rfl (MSub.cons .here rfl MSub.nil)) ?_ ?_
  · show 0 ≤ 5; omega
  intro gh N0 Gl0 hN0 hGl0 hF0
  obtain ⟨k, v⟩ := gh; dsimp only at hF0 hN0 ⊢
  have hk : k ≤ 5 := hF0; have hn := tot_mono s (show k ≤ 5 by omega); have hal := lookM_len s us k
  refine .seq ?_
  refine Wk.rg [0] rfl rfl ?_
  refine cp rfl .no (.u rfl) (.u rfl) rfl ?_
  refine .nil ?_
  refine .code ?_
  refine .seq ?_
  refine .cond rfl (fun c1 => ?_) (fun c1 => ?_)
  · have c1k := c1
    try simp only [decide_eq_true_eq, decide_eq_false_iff_not, Int.not_lt, Int.not_le, gt_iff_lt, ge_iff_le, Bool.or_eq_true, Bool.and_eq_true, Bool.or_eq_false_iff, Bool.not_eq_true', Bool.not_eq_false', Int.toNat_natCast] at c1
    refine .skip ?_
    refine .code ?_
    refine .seq ?_
    refine .block ?_
    refine .seq ?_
    refine Wk.rg [0, 1] rfl rfl ?_
    refine mv rfl .no (.u rfl) ?_
    refine asg rfl .no (.u rfl) ?_
    refine .nil ?_
    refine .code ?_
    refine Wk.rg [0, 1, 2, 3, 4, 5, 6, 7] rfl rfl ?_
    have hn1 := tot_mono s (show k + 1 ≤ 5 by omega); rw [show tot s (k + 1) = tot s k + (s.lv k).length from rfl] at hn1; have hov := ovu_len s k us
    refine mv rfl .no (.u rfl) ?_
    refine lA rfl .no Fx.ag27 (.u rfl) (fun _ => RdN.own (.there .here)) (fun _ => rfl) ?_
    refine mv rfl .no (.u rfl) ?_
    refine mv rfl .no (.u rfl) ?_
    refine mv rfl .no (.u rfl) ?_
    refine kc rfl Fx.go27 (Eva.cons (.u rfl) (Eva.cons (.u rfl) (Eva.cons (.u rfl) (Eva.cons (.u rfl) Eva.nil)))) (over_ok s hd _ (hs.mono hGl0) (k : Int) us us) ?_
    rintro v Ga μa hGa ⟨rfl, ha, rfl, hsa⟩
    refine ap rfl Fx.se22 Fx.zv48 rfl (.u rfl) (.u rfl) .here (flat_len (metas_len _)) (fun h => ⟨_, _, hsa.nn h, (hsa.flat (metas_len _)).rd⟩) (metas_one _) (by omega) (by unfold maxLen; omega) ?_; intro v16
    refine asg rfl .no (.u rfl) ?_
    refine .nil ?_
    refine .blk ?_
    refine .code ?_
    refine Wk.rg [0, 1] rfl rfl ?_
    refine ar rfl .no (.u rfl) (.u rfl) rfl (fun _ => wrap_i64 (by omega) (by omega)) ?_
    refine mv rfl .no (.u rfl) ?_
    refine .nil ?_
    refine We.lpo (k + 1, v16) ?_ ?_ ?_ ?_ ?_
    · exact (ESub.cons rfl rfl (ESub.cons rfl rfl (ESub.cons rfl rfl (ESub.cons rfl rfl ESub.nil))))
    · exact (MSub.cons .here (lookM_row s us k _ _) (MSub.cons .here rfl MSub.nil))
    · first | omega | (dsimp only; omega)
    · exact hGl0.trans hGa
    · show k + 1 ≤ 5; omega
  · have c1k := c1
    try simp only [decide_eq_true_eq, decide_eq_false_iff_not, Int.not_lt, Int.not_le, gt_iff_lt, ge_iff_le, Bool.or_eq_true, Bool.and_eq_true, Bool.or_eq_false_iff, Bool.not_eq_true', Bool.not_eq_false', Int.toNat_natCast] at c1
    refine .exit ?_
    refine .xcode ?_
    refine .xlp ?_
    refine .xblk ?_
    refine .code ?_
    refine .seq ?_
    refine Wk.rg [0, 1] rfl rfl ?_
    refine mv rfl .no (.u rfl) ?_
    refine asg rfl .no (.u rfl) ?_
    refine .nil ?_
    refine .code ?_
    refine .ret ?_
    refine we_fr .here (fun b hb => by cases hb) ?_
    intro Gf hh hlef hv hcap hnn hrd; subst hv
    refine We.fin0 Try.results25 (.tmp rfl .nil) ?_
    obtain rfl : k = 5 := by omega
    exact ⟨rfl, hh, rfl, SlR.ofRow (metas_len _) hcap hnn hrd⟩

theorem rlook_ok (s : State) (hd : Nat → Sh) (G : PM) (hs : StR G s hd) (hf : tot s 5 ≤ 1024) (us : ByteArray) : Ct Try.prog 26 ([s.val hd, .string us] : List Value).toArray G [] (fun G' μ' u => μ' = [] ∧ ∃ h : Sh, u = h.val (lookM s us 5).length ∧ SlR G' 40 Meta.cells h (lookM s us 5)) := by
  refine Ct.of Try.func26 rfl Try.ntmps26 rfl fun w0 hs0 => ?_
  refine .seq ?_
  refine Wk.rg [0, 1] rfl rfl ?_
  refine bx rfl (.u rfl) rfl ?_; intro b2
  refine asg rfl .no (.u rfl) ?_
  refine .nil ?_
  refine .code ?_
  refine .seq ?_
  refine Wk.rg [0] rfl rfl ?_
  refine asg rfl .no (.u rfl) ?_
  refine .nil ?_
  refine .code ?_
  refine .seq ?_
  refine .seq ?_
  refine Wk.rg [0] rfl rfl ?_
  refine asg rfl .no (.u rfl) ?_
  refine .nil ?_
  refine .code ?_
  refine .block ?_
  refine wk_nilRow 48 40 ?_
  refine Wk.lop (α := Nat × Value) (fun gh => [(5, true, gh.2), (6, true, .int .i64 (gh.1 : Int))]) (fun gh => [.row gh.2 48 40 (lookM s us gh.1).length ((lookM s us gh.1).flatMap Meta.cells)])
    (fun gh Gl => gh.1 ≤ 5) (fun gh => 5 - gh.1) (0, .slice none 0 0) [(1, true, _), (2, true, _)] [.blk b2 _]
    (ESub.cons rfl rfl (ESub.cons rfl rfl (ESub.cons rfl rfl (ESub.cons rfl rfl ESub.nil))))
    (MSub.cons .here rfl (MSub.cons .here rfl MSub.nil)) ?_ ?_
  · show 0 ≤ 5; omega
  intro gh N0 Gl0 hN0 hGl0 hF0
  obtain ⟨k, v⟩ := gh; dsimp only at hF0 hN0 ⊢
  have hk : k ≤ 5 := hF0; have hn := tot_mono s (show k ≤ 5 by omega); have hal := lookM_len s us k
  refine .seq ?_
  refine .seq ?_
  refine Wk.rg [0, 1] rfl rfl ?_
  refine mv rfl .no (.u rfl) ?_
  refine cp rfl .no (.u rfl) (.u rfl) rfl ?_
  refine .nil ?_
  refine .code ?_
  refine .cond rfl (fun c1 => ?_) (fun c1 => ?_)
  · have c1k := c1
    try simp only [decide_eq_true_eq, decide_eq_false_iff_not, Int.not_lt, Int.not_le, gt_iff_lt, ge_iff_le, Bool.or_eq_true, Bool.and_eq_true, Bool.or_eq_false_iff, Bool.not_eq_true', Bool.not_eq_false', Int.toNat_natCast] at c1
    refine .skip ?_
    refine .code ?_
    refine .seq ?_
    refine .block ?_
    refine Wk.rg [0, 1, 2, 3, 4, 5, 6, 7] rfl rfl ?_
    have hn1 := tot_mono s (show k + 1 ≤ 5 by omega); rw [show tot s (k + 1) = tot s k + (s.lv k).length from rfl] at hn1; have hov := ovu_len s k us
    refine mv rfl .no (.u rfl) ?_
    refine lA rfl .no Fx.ag27 (.u rfl) (fun _ => RdN.own (.there .here)) (fun _ => rfl) ?_
    refine mv rfl .no (.u rfl) ?_
    refine mv rfl .no (.u rfl) ?_
    refine mv rfl .no (.u rfl) ?_
    refine kc rfl Fx.go28 (Eva.cons (.u rfl) (Eva.cons (.u rfl) (Eva.cons (.u rfl) (Eva.cons (.u rfl) Eva.nil)))) (rover_ok s hd _ (hs.mono hGl0) (k : Int) us us) ?_
    rintro v Ga μa hGa ⟨rfl, ha, rfl, hsa⟩
    refine ap rfl Fx.se22 Fx.zv48 rfl (.u rfl) (.u rfl) .here (flat_len (metas_len _)) (fun h => ⟨_, _, hsa.nn h, (hsa.flat (metas_len _)).rd⟩) (metas_one _) (by omega) (by unfold maxLen; omega) ?_; intro v17
    refine asg rfl .no (.u rfl) ?_
    refine .nil ?_
    refine .blk ?_
    refine .code ?_
    refine Wk.rg [0, 1, 2] rfl rfl ?_
    refine mv rfl .no (.u rfl) ?_
    refine ar rfl .no (.u rfl) (.u rfl) rfl (fun _ => wrap_i64 (by omega) (by omega)) ?_
    refine asg rfl .no (.u rfl) ?_
    refine .nil ?_
    refine We.lpo (k + 1, v17) ?_ ?_ ?_ ?_ ?_
    · exact (ESub.cons rfl rfl (ESub.cons rfl rfl (ESub.cons rfl rfl (ESub.cons rfl rfl ESub.nil))))
    · exact (MSub.cons .here (lookM_row s us k _ _) (MSub.cons .here rfl MSub.nil))
    · first | omega | (dsimp only; omega)
    · exact hGl0.trans hGa
    · show k + 1 ≤ 5; omega
  · have c1k := c1
    try simp only [decide_eq_true_eq, decide_eq_false_iff_not, Int.not_lt, Int.not_le, gt_iff_lt, ge_iff_le, Bool.or_eq_true, Bool.and_eq_true, Bool.or_eq_false_iff, Bool.not_eq_true', Bool.not_eq_false', Int.toNat_natCast] at c1
    refine .exit ?_
    refine .xcode ?_
    refine .xlp ?_
    refine .xblk ?_
    refine .code ?_
    refine .seq ?_
    refine Wk.rg [0, 1] rfl rfl ?_
    refine mv rfl .no (.u rfl) ?_
    refine asg rfl .no (.u rfl) ?_
    refine .nil ?_
    refine .code ?_
    refine .ret ?_
    refine we_fr .here (fun b hb => by cases hb) ?_
    intro Gf hh hlef hv hcap hnn hrd; subst hv
    refine We.fin0 Try.results26 (.tmp rfl .nil) ?_
    obtain rfl : k = 5 := by omega
    exact ⟨rfl, hh, rfl, SlR.ofRow (metas_len _) hcap hnn hrd⟩

end Go.Proofs.Ytnhdaaggkdegpaa

namespace Go.Proofs.Ytnhdaaggkdegpaa
set_option linter.unusedSimpArgs false
set_option linter.unusedVariables false
open Go.Tan Go.RowKit

namespace Fx
theorem eqt48 : eqT Try.prog 4 48 (metaKs) = true := by kernel_rfl
end Fx
theorem sameMetas_ok (ha hb : Sh) (a b : List Meta) (G : PM) (hsa : SlR G 40 Meta.cells ha a) (hsb : SlR G 40 Meta.cells hb b) (hwa : ∀ m ∈ a, m.wf) (hwb : ∀ m ∈ b, m.wf) (hla : a.length ≤ 100000000000) : Ct Try.prog 24 ([ha.val a.length, hb.val b.length] : List Value).toArray G [] (fun _ μ' u => μ' = [] ∧ u = .bool (sameM a b)) := by
  refine Ct.of Try.func24 rfl Try.ntmps24 rfl fun w0 hs0 => ?_
  refine .seq ?_
  refine Wk.rg [0] rfl rfl ?_
  refine asg rfl .no (.u rfl) ?_
  refine .nil ?_
  refine .code ?_
  refine .seq ?_
  refine .seq ?_
  refine Wk.rg [0, 1, 2, 3, 4] rfl rfl ?_
  refine mv rfl .no (.u rfl) ?_
  refine ln rfl .no Fx.sn22 (.u rfl) ?_
  refine mv rfl .no (.u rfl) ?_
  refine ln rfl .no Fx.sn22 (.u rfl) ?_
  refine cp rfl .no (.u rfl) (.u rfl) rfl ?_
  refine .nil ?_
  refine .code ?_
  refine .cond rfl (fun c1 => ?_) (fun c1 => ?_)
  · have c1k := c1
    try simp only [decide_eq_true_eq, decide_eq_false_iff_not, Int.not_lt, Int.not_le, gt_iff_lt, ge_iff_le, Bool.or_eq_true, Bool.and_eq_true, Bool.or_eq_false_iff, Bool.not_eq_true', Bool.not_eq_false', Int.toNat_natCast, bne_iff_ne, beq_iff_eq, bne_eq_false_iff_eq, beq_eq_false_iff_ne, ne_eq] at c1
    refine .seq ?_
    refine Wk.rg [0] rfl rfl ?_
    refine asg rfl .no (.u rfl) ?_
    refine .nil ?_
    refine .code ?_
    refine .ret ?_
    refine We.fin0 Try.results24 (.tmp rfl .nil) ?_
    exact ⟨rfl, congrArg Value.bool (sameM_len (by simp at c1k; omega)).symm⟩
  · have c1k := c1
    try simp only [decide_eq_true_eq, decide_eq_false_iff_not, Int.not_lt, Int.not_le, gt_iff_lt, ge_iff_le, Bool.or_eq_true, Bool.and_eq_true, Bool.or_eq_false_iff, Bool.not_eq_true', Bool.not_eq_false', Int.toNat_natCast, bne_iff_ne, beq_iff_eq, bne_eq_false_iff_eq, beq_eq_false_iff_ne, ne_eq] at c1
    refine .skip ?_
    refine .code ?_
    refine .seq ?_
    refine .seq ?_
    refine Wk.rg [0] rfl rfl ?_
    refine asg rfl .no (.u rfl) ?_
    refine .nil ?_
    refine .code ?_
    refine .block ?_
    refine Wk.lop (α := Nat) (fun k => [(5, true, .int .i64 (k : Int))]) (fun _ => [])
      (fun k Gl => (k ≤ a.length) ∧ (∀ j, j < k → eqM (a.getD j Meta.zero) (b.getD j Meta.zero) = true)) (fun k => a.length - k) 0 [(0, true, _), (1, true, _)] []
      (ESub.cons rfl (by first | rfl | exact evi (by omega)) (ESub.cons rfl rfl (ESub.cons rfl rfl ESub.nil)))
      MSub.nil ?_ ?_
    · refine ⟨?_, ?_⟩
      · (try dsimp only) <;> (first | omega | rfl | assumption | (simp; done))
      · (try dsimp only) <;> (exact fun j hj => by omega)
    intro k N0 Gl0 hN0 hGl0 hF0
    try dsimp only at hF0 hN0 ⊢
    obtain ⟨hk, hq⟩ := hF0
    have hsa := hsa.mono hGl0
    have hsb := hsb.mono hGl0
    refine .seq ?_
    refine .seq ?_
    refine Wk.rg [0, 1, 2, 3] rfl rfl ?_
    refine mv rfl .no (.u rfl) ?_
    refine mv rfl .no (.u rfl) ?_
    refine ln rfl .no Fx.sn22 (.u rfl) ?_
    refine cp rfl .no (.u rfl) (.u rfl) rfl ?_
    refine .nil ?_
    refine .code ?_
    refine .cond rfl (fun c2 => ?_) (fun c2 => ?_)
    · have c2k := c2
      try simp only [decide_eq_true_eq, decide_eq_false_iff_not, Int.not_lt, Int.not_le, gt_iff_lt, ge_iff_le, Bool.or_eq_true, Bool.and_eq_true, Bool.or_eq_false_iff, Bool.not_eq_true', Bool.not_eq_false', Int.toNat_natCast, bne_iff_ne, beq_iff_eq, bne_eq_false_iff_eq, beq_eq_false_iff_ne, ne_eq] at c2
      refine .skip ?_
      refine .code ?_
      refine .seq ?_
      refine .block ?_
      refine .seq ?_
      refine Wk.draw (mc := ⟨false, false⟩) [0, 1, 2, 3, 4, 5, 6, 7, 8] Fx.mix (by kernel_rfl) ?_
      refine mv rfl .no (.u rfl) ?_
      refine mv rfl .no (.u rfl) ?_
      refine ih rfl .no Fx.se22 (.u rfl) (.u rfl) (fun _ => by omega) (fun _ => by omega) (fun _ => hsa.nn (k := k) (by first | omega | (simp only [List.length_cons, List.length_nil]; omega))) ?_
      refine lA rfl .no Fx.ag48 (.u rfl) (fun _ => (hsa.gat k (by omega) (by omega)).rd) (fun _ => Meta.len _) ?_
      refine mv rfl .no (.u rfl) ?_
      refine mv rfl .no (.u rfl) ?_
      refine ih rfl .no Fx.se22 (.u rfl) (.u rfl) (fun _ => by omega) (fun _ => by omega) (fun _ => hsb.nn (k := k) (by first | omega | (simp only [List.length_cons, List.length_nil]; omega))) ?_
      refine lA rfl .no Fx.ag48 (.u rfl) (fun _ => (hsb.gat k (by omega) (by omega)).rd) (fun _ => Meta.len _) ?_
      refine nqC (eqM (a.getD k Meta.zero) (b.getD k Meta.zero)) rfl .no Fx.eqt48 (.u rfl) (.u rfl) (fun _ => meta_conf (hwa _ (getD_mem (by omega)))) (fun _ => meta_conf (hwb _ (getD_mem (by omega)))) (fun _ => eqM_iff) ?_
      refine .nil ?_
      refine .code ?_
      refine .cond rfl (fun c3 => ?_) (fun c3 => ?_)
      · have c3k := c3
        try simp only [decide_eq_true_eq, decide_eq_false_iff_not, Int.not_lt, Int.not_le, gt_iff_lt, ge_iff_le, Bool.or_eq_true, Bool.and_eq_true, Bool.or_eq_false_iff, Bool.not_eq_true', Bool.not_eq_false', Int.toNat_natCast, bne_iff_ne, beq_iff_eq, bne_eq_false_iff_eq, beq_eq_false_iff_ne, ne_eq] at c3
        refine .seq ?_
        refine Wk.rg [0] rfl rfl ?_
        refine asg rfl .no (.u rfl) ?_
        refine .nil ?_
        refine .code ?_
        refine .ret ?_
        refine We.fin0 Try.results24 (.tmp rfl .nil) ?_
        exact ⟨rfl, congrArg Value.bool (sameM_no (k := k) (by omega) (by simp at c1k; omega) (by simpa using c3k)).symm⟩
      · have c3k := c3
        try simp only [decide_eq_true_eq, decide_eq_false_iff_not, Int.not_lt, Int.not_le, gt_iff_lt, ge_iff_le, Bool.or_eq_true, Bool.and_eq_true, Bool.or_eq_false_iff, Bool.not_eq_true', Bool.not_eq_false', Int.toNat_natCast, bne_iff_ne, beq_iff_eq, bne_eq_false_iff_eq, beq_eq_false_iff_ne, ne_eq] at c3
        refine .skip ?_
        refine .blk ?_
        refine .code ?_
        refine Wk.rg [0, 1, 2] rfl rfl ?_
        refine mv rfl .no (.u rfl) ?_
        refine arn (((k + 1) : Nat) : Int) rfl .no (.u rfl) (.u rfl) rfl (fun _ => by omega) (fun _ => wrap_i64 (by omega) (by omega)) ?_
        refine asg rfl .no (.u rfl) ?_
        refine .nil ?_
        refine We.lpo (k + 1) ?_ ?_ ?_ ?_ ?_
        · exact (ESub.cons rfl (by first | rfl | exact evi (by omega)) (ESub.cons rfl rfl (ESub.cons rfl rfl ESub.nil)))
        · exact MSub.nil
        · first | omega | (dsimp only; omega)
        · exact hGl0
        · refine ⟨?_, ?_⟩
          · (try dsimp only) <;> (first | omega | rfl | assumption | (simp; done))
          · (try dsimp only) <;> (exact fun j hj => by (by_cases e : j = k; (subst e; simpa using c3k); exact hq j (by omega)))
    · have c2k := c2
      try simp only [decide_eq_true_eq, decide_eq_false_iff_not, Int.not_lt, Int.not_le, gt_iff_lt, ge_iff_le, Bool.or_eq_true, Bool.and_eq_true, Bool.or_eq_false_iff, Bool.not_eq_true', Bool.not_eq_false', Int.toNat_natCast, bne_iff_ne, beq_iff_eq, bne_eq_false_iff_eq, beq_eq_false_iff_ne, ne_eq] at c2
      refine .exit ?_
      refine .xcode ?_
      refine .xlp ?_
      refine .xblk ?_
      refine .code ?_
      refine .seq ?_
      refine Wk.rg [0] rfl rfl ?_
      refine asg rfl .no (.u rfl) ?_
      refine .nil ?_
      refine .code ?_
      refine .ret ?_
      refine We.fin0 Try.results24 (.tmp rfl .nil) ?_
      exact ⟨rfl, congrArg Value.bool (sameM_yes (by simp at c1k; omega) (fun j hj => hq j (by omega))).symm⟩

end Go.Proofs.Ytnhdaaggkdegpaa

namespace Go.Proofs.Ytnhdaaggkdegpaa
set_option linter.unusedSimpArgs false
set_option linter.unusedVariables false
open Go.Tan Go.RowKit

namespace FxVerZ
theorem sn84 : (slE Try.prog 84).isSome = true := by kernel_rfl
theorem se84 : slE Try.prog 84 = some (24, 1, 8) := by kernel_rfl
end FxVerZ
namespace Fx
theorem fo32_5 : fOff Try.prog 32 5 = some 9 := by kernel_rfl
theorem fo32_6 : fOff Try.prog 32 6 = some 10 := by kernel_rfl
theorem ag30 : aggN Try.prog 30 = some none := by kernel_rfl
theorem se30 : slE Try.prog 30 = some (51, 2, 16) := by kernel_rfl
theorem sn30 : (slE Try.prog 30).isSome = true := by kernel_rfl
end Fx
theorem light_ok (s : State) (hd : Nat → Sh) (G : PM) (hs : StR G s hd) : Ct Try.prog 11 ([s.val hd] : List Value).toArray G [] (fun _ μ' u => μ' = [] ∧ u = .bool (decide (tot s 5 ≤ 300))) := by
  refine Ct.of Try.func11 rfl Try.ntmps11 rfl fun w0 hs0 => ?_
  refine .seq ?_
  refine Wk.rg [0, 1] rfl rfl ?_
  refine bx rfl (.u rfl) rfl ?_; intro b1
  refine asg rfl .no (.u rfl) ?_
  refine .nil ?_
  refine .code ?_
  refine .seq ?_
  refine Wk.rg [0] rfl rfl ?_
  refine asg rfl .no (.u rfl) ?_
  refine .nil ?_
  refine .code ?_
  refine .seq ?_
  refine .seq ?_
  refine Wk.rg [0] rfl rfl ?_
  refine mv rfl .no (.u rfl) ?_
  refine .nil ?_
  refine .code ?_
  refine .block ?_
  refine Wk.lop (α := Nat) (fun k => [(3, true, .int .i64 (300 - tot s k)), (5, true, .int .i64 (k : Int))]) (fun _ => [])
    (fun k Gl => k ≤ 5 ∧ tot s k ≤ 300) (fun k => 5 - k) 0 [(1, true, _)] [.blk b1 _]
    (ESub.cons rfl rfl (ESub.cons rfl rfl (ESub.cons rfl rfl ESub.nil)))
    (MSub.cons .here rfl MSub.nil) ?_ ?_
  · exact ⟨by omega, by simp [tot]⟩
  intro k N0 Gl0 hN0 hGl0 hF0
  try dsimp only at hF0 hN0 ⊢
  obtain ⟨hk, ht⟩ := hF0; have hn := tot_nonneg s k
  refine .seq ?_
  refine Wk.rg [0] rfl rfl ?_
  refine cp rfl .no (.u rfl) (.u rfl) rfl ?_
  refine .nil ?_
  refine .code ?_
  refine .seq ?_
  refine .cond rfl (fun c1 => ?_) (fun c1 => ?_)
  · have c1k := c1
    try simp only [decide_eq_true_eq, decide_eq_false_iff_not, Int.not_lt, Int.not_le, gt_iff_lt, ge_iff_le, Bool.or_eq_true, Bool.and_eq_true, Bool.or_eq_false_iff, Bool.not_eq_true', Bool.not_eq_false', Int.toNat_natCast] at c1
    refine .skip ?_
    refine .code ?_
    refine .seq ?_
    refine .block ?_
    refine .seq ?_
    refine Wk.rg [0, 1] rfl rfl ?_
    refine mv rfl .no (.u rfl) ?_
    refine asg rfl .no (.u rfl) ?_
    refine .nil ?_
    refine .code ?_
    refine .seq ?_
    refine .seq ?_
    refine Wk.rg [0, 1, 2, 3, 4, 5, 6] rfl rfl ?_
    refine mv rfl .no (.u rfl) ?_
    refine fz rfl .no Fx.fo27_0 (.u rfl) ?_
    refine iA rfl .no Fx.ar23 (.u rfl) (.u rfl) (fun _ => by omega) (fun _ => by omega) ?_
    refine ld rfl .no Fx.ag22 (.u rfl) (fun _ => Rd.own .here (s.cell_lv hd (k := k) (by omega))) ?_
    refine ln rfl .no Fx.sn22 (.u rfl) ?_
    refine mv rfl .no (.u rfl) ?_
    refine cp rfl .no (.u rfl) (.u rfl) rfl ?_
    refine .nil ?_
    refine .code ?_
    refine .cond rfl (fun c2 => ?_) (fun c2 => ?_)
    · have c2k := c2
      try simp only [decide_eq_true_eq, decide_eq_false_iff_not, Int.not_lt, Int.not_le, gt_iff_lt, ge_iff_le, Bool.or_eq_true, Bool.and_eq_true, Bool.or_eq_false_iff, Bool.not_eq_true', Bool.not_eq_false', Int.toNat_natCast] at c2
      refine .seq ?_
      refine Wk.rg [0] rfl rfl ?_
      refine asg rfl .no (.u rfl) ?_
      refine .nil ?_
      refine .code ?_
      refine .ret ?_
      refine We.fin0 Try.results11 (.tmp rfl .nil) ?_
      exact ⟨rfl, by have := tot_mono s (show k + 1 ≤ 5 by omega); rw [show tot s (k + 1) = tot s k + (s.lv k).length from rfl] at this; simp only [tup, Value.bool.injEq]; symm; rw [decide_eq_false_iff_not]; omega⟩
    · have c2k := c2
      try simp only [decide_eq_true_eq, decide_eq_false_iff_not, Int.not_lt, Int.not_le, gt_iff_lt, ge_iff_le, Bool.or_eq_true, Bool.and_eq_true, Bool.or_eq_false_iff, Bool.not_eq_true', Bool.not_eq_false', Int.toNat_natCast] at c2
      refine .skip ?_
      refine .code ?_
      refine Wk.rg [0, 1, 2, 3, 4, 5, 6, 7] rfl rfl ?_
      refine mv rfl .no (.u rfl) ?_
      refine mv rfl .no (.u rfl) ?_
      refine fz rfl .no Fx.fo27_0 (.u rfl) ?_
      refine iA rfl .no Fx.ar23 (.u rfl) (.u rfl) (fun _ => by omega) (fun _ => by omega) ?_
      refine ld rfl .no Fx.ag22 (.u rfl) (fun _ => Rd.own .here (s.cell_lv hd (k := k) (by omega))) ?_
      refine ln rfl .no Fx.sn22 (.u rfl) ?_
      refine ar rfl .no (.u rfl) (.u rfl) rfl (fun _ => wrap_i64 (by omega) (by omega)) ?_
      refine asg rfl .no (.u rfl) ?_
      refine .nil ?_
      refine .blk ?_
      refine .code ?_
      refine Wk.rg [0, 1] rfl rfl ?_
      refine ar rfl .no (.u rfl) (.u rfl) rfl (fun _ => wrap_i64 (by omega) (by omega)) ?_
      refine mv rfl .no (.u rfl) ?_
      refine .nil ?_
      refine We.lpo (k + 1) ?_ ?_ ?_ ?_ ?_
      · exact (ESub.cons rfl (congrArg _ (by simp only [tot]; omega)) (ESub.cons rfl rfl (ESub.cons rfl rfl ESub.nil)))
      · exact (MSub.cons .here rfl MSub.nil)
      · first | omega | (dsimp only; omega)
      · exact hGl0
      · exact ⟨by omega, by simp only [tot]; omega⟩
  · have c1k := c1
    try simp only [decide_eq_true_eq, decide_eq_false_iff_not, Int.not_lt, Int.not_le, gt_iff_lt, ge_iff_le, Bool.or_eq_true, Bool.and_eq_true, Bool.or_eq_false_iff, Bool.not_eq_true', Bool.not_eq_false', Int.toNat_natCast] at c1
    refine .exit ?_
    refine .xcode ?_
    refine .xlp ?_
    refine .xblk ?_
    refine .code ?_
    refine .seq ?_
    refine Wk.rg [0] rfl rfl ?_
    refine asg rfl .no (.u rfl) ?_
    refine .nil ?_
    refine .code ?_
    refine .ret ?_
    refine We.fin0 Try.results11 (.tmp rfl .nil) ?_
    exact ⟨rfl, by (obtain rfl : k = 5 := by omega); simp only [tup, Value.bool.injEq]; symm; rw [decide_eq_true_eq]; omega⟩

theorem few_ok (e : Edit) (ha hd : Sh) (G : PM) : Ct Try.prog 14 ([e.val ha hd] : List Value).toArray G [] (fun _ μ' u => μ' = [] ∧ u = .bool (decide ((e.add.length : Int) ≤ 300) && decide ((e.drop.length : Int) ≤ 300))) := by
  refine Ct.of Try.func14 rfl Try.ntmps14 rfl fun w0 hs0 => ?_
  refine .seq ?_
  refine Wk.rg [0, 1] rfl rfl ?_
  refine bx rfl (.u rfl) rfl ?_; intro b1
  refine asg rfl .no (.u rfl) ?_
  refine .nil ?_
  refine .code ?_
  refine .seq ?_
  refine Wk.rg [0, 1, 2, 3, 4, 5, 6, 7, 8, 9, 10] rfl rfl ?_
  refine fz rfl .no Fx.fo32_5 (.u rfl) ?_
  refine ld rfl .no Fx.ag22 (.u rfl) (fun _ => Rd.own .here rfl) ?_
  refine ln rfl .no Fx.sn22 (.u rfl) ?_
  refine cp rfl .no (.u rfl) (.u rfl) rfl ?_
  refine mv rfl .no (.u rfl) ?_
  refine fz rfl (.t rfl rfl) Fx.fo32_6 (.u rfl) ?_
  refine ld rfl (.t rfl rfl) Fx.ag30 (.s rfl) (fun hc => Rd.own .here rfl) ?_
  refine ln rfl (.t rfl rfl) Fx.sn30 (.s rfl) ?_
  refine cp rfl (.t rfl rfl) (.s rfl) (.u rfl) rfl ?_
  refine pkA rfl .no (.u rfl) (.s rfl) ?_
  refine asg rfl .no (.u rfl) ?_
  refine .nil ?_
  refine .code ?_
  refine .ret ?_
  refine We.fin0 Try.results14 (.tmp rfl .nil) ?_
  exact ⟨rfl, rfl⟩

theorem nums_ok (ns : List Int) (hn : Sh) (G : PM) (hsn : SlR G 1 encQ hn ns) (hu : ∀ x ∈ ns, u64 x) (hl : 10 * ns.length ≤ 100000000000000) : Ct Try.prog 46 ([hn.val ns.length] : List Value).toArray G [] (PR 5 (fun L => L = numsL ns)) := by
  refine Ct.of Try.func46 rfl Try.ntmps46 rfl fun w0 hs0 => ?_
  refine .seq ?_
  refine Wk.rg [0] rfl rfl ?_
  refine asg rfl .no (.u rfl) ?_
  refine .nil ?_
  refine .code ?_
  refine .seq ?_
  refine Wk.rg [0] rfl rfl ?_
  refine asg rfl .no (.u rfl) ?_
  refine .nil ?_
  refine .code ?_
  refine .seq ?_
  refine .seq ?_
  refine wk_nilB 5 ?_
  refine Wk.rg [0] rfl rfl ?_
  refine asg rfl .no (.u rfl) ?_
  refine .nil ?_
  refine .code ?_
  refine .block ?_
  refine Wk.lop (α := Nat × Value × List Y) (fun gh => [(3, true, gh.2.1), (4, true, .int .i64 (gh.1 : Int))]) (fun gh => [rB gh.2.1 5 gh.2.2])
    (fun gh Gl => (gh.1 ≤ ns.length) ∧ (gh.2.2 = numsL (ns.take gh.1))) (fun gh => ns.length - gh.1) (0, .slice none 0 0, []) [(0, true, _)] []
    (ESub.cons rfl rfl (ESub.cons rfl (by first | rfl | exact evi (by omega)) (ESub.cons rfl rfl ESub.nil)))
    (MSub.cons .here rfl MSub.nil) ?_ ?_
  · refine ⟨?_, ?_⟩
    · (try dsimp only) <;> (first | omega | rfl | assumption | (simp; done))
    · (try dsimp only) <;> (rfl)
  intro gh N0 Gl0 hN0 hGl0 hF0
  obtain ⟨k, v, L⟩ := gh; dsimp only at hF0 hN0 ⊢
  obtain ⟨hk, eL⟩ := hF0
  have hsn := hsn.mono hGl0
  have lt := numsL_take hu k
  have lL : L.length = (numsL (ns.take k)).length := by rw [eL]
  refine .seq ?_
  refine .seq ?_
  refine Wk.rg [0, 1, 2, 3] rfl rfl ?_
  refine mv rfl .no (.u rfl) ?_
  refine mv rfl .no (.u rfl) ?_
  refine ln rfl .no FxVerZ.sn84 (.u rfl) ?_
  refine cp rfl .no (.u rfl) (.u rfl) rfl ?_
  refine .nil ?_
  refine .code ?_
  refine .cond rfl (fun c1 => ?_) (fun c1 => ?_)
  · have c1k := c1
    try simp only [decide_eq_true_eq, decide_eq_false_iff_not, Int.not_lt, Int.not_le, gt_iff_lt, ge_iff_le, Bool.or_eq_true, Bool.and_eq_true, Bool.or_eq_false_iff, Bool.not_eq_true', Bool.not_eq_false', Int.toNat_natCast, bne_iff_ne, beq_iff_eq, bne_eq_false_iff_eq, beq_eq_false_iff_ne, ne_eq] at c1
    refine .skip ?_
    refine .code ?_
    refine .seq ?_
    refine .block ?_
    refine Wk.rg [0, 1, 2, 3, 4, 5, 6, 7] rfl rfl ?_
    refine mv rfl .no (.u rfl) ?_
    refine mv rfl .no (.u rfl) ?_
    refine mv rfl .no (.u rfl) ?_
    refine ih rfl .no FxVerZ.se84 (.u rfl) (.u rfl) (fun _ => by omega) (fun _ => by omega) (fun _ => hsn.nn (k := k) (by first | omega | (simp only [List.length_cons, List.length_nil]; omega))) ?_
    obtain ⟨x15, ex15⟩ := getx (k := k) (xs := ns) (by omega)
    refine ld rfl .no Fx.ag24 (.u rfl) (fun _ => (hsn.u1 k (by omega) ex15).rd) ?_
    refine kc rfl Fx.go69 (Eva.cons (.u rfl) Eva.nil) (Ct.frzB (rrNum_i x15 (hu x15 (List.mem_of_getElem? ex15)) _)) ?_
    rintro _ G16 μ16 hG16 ⟨h16, L16, eL16, rfl, rfl, hs16⟩
    have hsn := hsn.mono hG16
    have l16 : L16.length ≤ 10 := by rw [eL16]; exact num_len10 (by have := hu x15 (List.mem_of_getElem? ex15); unfold u64 at this; omega)
    refine apY rfl Fx.se33 Fx.zv5 (.u rfl) (.u rfl) .here hs16.sc (by (try simp only [List.length_append, List.length_cons, List.length_nil, yl_len]); omega) ?_
    intro v17 L17 ov17 eL17
    have lL17 : L17.length = L.length + L16.length := by rw [eL17, List.length_append]
    refine asg rfl .no (.u rfl) ?_
    refine .nil ?_
    refine .blk ?_
    refine .code ?_
    refine Wk.rg [0, 1, 2] rfl rfl ?_
    refine mv rfl .no (.u rfl) ?_
    refine arn (((k + 1) : Nat) : Int) rfl .no (.u rfl) (.u rfl) rfl (fun _ => by omega) (fun _ => wrap_i64 (by omega) (by omega)) ?_
    refine asg rfl .no (.u rfl) ?_
    refine .nil ?_
    refine We.lpo (k + 1, v17, L17) ?_ ?_ ?_ ?_ ?_
    · exact (ESub.cons rfl rfl (ESub.cons rfl (by first | rfl | exact evi (by omega)) (ESub.cons rfl rfl ESub.nil)))
    · exact (MSub.cons .here rfl MSub.nil)
    · first | omega | (dsimp only; omega)
    · exact (hGl0).trans hG16
    · refine ⟨?_, ?_⟩
      · (try dsimp only) <;> (first | omega | rfl | assumption | (simp; done))
      · (try dsimp only) <;> (rw [eL17, eL16, eL, numsL_snoc ex15])
  · have c1k := c1
    try simp only [decide_eq_true_eq, decide_eq_false_iff_not, Int.not_lt, Int.not_le, gt_iff_lt, ge_iff_le, Bool.or_eq_true, Bool.and_eq_true, Bool.or_eq_false_iff, Bool.not_eq_true', Bool.not_eq_false', Int.toNat_natCast, bne_iff_ne, beq_iff_eq, bne_eq_false_iff_eq, beq_eq_false_iff_ne, ne_eq] at c1
    refine .exit ?_
    refine .xcode ?_
    refine .xlp ?_
    refine .xblk ?_
    refine .code ?_
    refine .seq ?_
    refine Wk.rg [0, 1] rfl rfl ?_
    refine mv rfl .no (.u rfl) ?_
    refine asg rfl .no (.u rfl) ?_
    refine .nil ?_
    refine .code ?_
    refine .ret ?_
    refine We.fin Try.results46 (.tmp rfl .nil) (MSub.cons .here rfl MSub.nil) ?_
    obtain rfl : k = ns.length := by omega
    rw [List.take_length] at eL
    exact ⟨L, eL, rfl⟩

end Go.Proofs.Ytnhdaaggkdegpaa

namespace Go.Proofs.Ytnhdaaggkdegpaa
set_option linter.unusedSimpArgs false
set_option linter.unusedVariables false
open Go.Tan Go.RowKit

namespace Fx
theorem zv24 : (Try.prog.info? 24).bind (·.zero) = some (.int .u64 0) := by kernel_rfl
theorem go44 : goFn Try.prog 44 = true := by kernel_rfl
theorem go45 : goFn Try.prog 45 = true := by kernel_rfl
theorem fo51_0 : fOff Try.prog 51 0 = some 0 := by kernel_rfl
end Fx
set_option maxHeartbeats 2000000 in
theorem encode_ok (e : Edit) (ha hd : Sh) (G : PM) (he : EdR G e ha hd) (hla : e.add.length ≤ 1000000) (hld : e.drop.length ≤ 1000000) (hlm : (e.add.flatMap encM).length ≤ 10000000000000) : Ct Try.prog 17 ([e.val ha hd] : List Value).toArray G [] (fun G' μ' u => ∃ (s : Sh) (L : List Y), L = encE e ∧ μ' = [] ∧ u = s.val L.length ∧ SlR G' 1 encY s L) := by
  refine Ct.of Try.func17 rfl Try.ntmps17 rfl fun w0 hs0 => ?_
  have hea := he.add; have hed := he.drop; have hw := he.wf; have hw1 := hw.log; have hw2 := hw.next; have hw3 := hw.seq; have hw4 := hw.least; have lgn : (gensL e).length = 5 := rfl
  refine .seq ?_
  refine Wk.rg [0, 1] rfl rfl ?_
  refine bx rfl (.u rfl) rfl ?_; intro b1
  refine asg rfl .no (.u rfl) ?_
  refine .nil ?_
  refine .code ?_
  refine .seq ?_
  refine wk_fz .here (by intro b hb; cases hb) ?_; intro Gfb1 hleb1 hbb1
  have hea := hea.mono hleb1
  have hed := hed.mono hleb1
  have hgn := gens_sl hbb1
  refine Wk.rg [0, 1, 2, 3, 4, 5, 6, 7, 8, 9, 10] rfl rfl ?_
  refine fa rfl .no Fx.fo32_0 (.u rfl) ?_
  refine ld rfl .no Fx.ag24 (.u rfl) (fun _ => (hbb1.rd (by rfl)).rd) ?_
  refine fa rfl .no Fx.fo32_1 (.u rfl) ?_
  refine ld rfl .no Fx.ag24 (.u rfl) (fun _ => (hbb1.rd (by rfl)).rd) ?_
  refine fa rfl .no Fx.fo32_2 (.u rfl) ?_
  refine ld rfl .no Fx.ag24 (.u rfl) (fun _ => (hbb1.rd (by rfl)).rd) ?_
  refine fa rfl .no Fx.fo32_3 (.u rfl) ?_
  refine ld rfl .no Fx.ag24 (.u rfl) (fun _ => (hbb1.rd (by rfl)).rd) ?_
  refine bQ [e.log, e.next, e.seq, e.least] rfl Fx.se84 Fx.zv24 (Evp.cons (.u rfl) (Evp.cons (.u rfl) (Evp.cons (.u rfl) (Evp.cons (.u rfl) Evp.nil)))) rfl rfl (by decide) ?_; intro G16 h16 hG16 hs16
  have hea := hea.mono hG16
  have hed := hed.mono hG16
  have hbb1 := hbb1.mono hG16
  have hgn := hgn.mono hG16
  refine kc rfl Fx.go44 (Eva.cons (.u rfl) (Eva.cons (.u rfl) Eva.nil)) (numbers_ok ([] : List Y) ⟨none, 0⟩ [e.log, e.next, e.seq, e.least] h16 _ SlR.nul hs16 (q4 hw1 hw2 hw3 hw4) (by simp only [List.length_cons, List.length_nil]; omega)) ?_
  rintro _ G17 μ17 hG17 ⟨h17, L17, eL17, rfl, rfl, hs17⟩
  have lL17 : L17.length ≤ ([] : List Y).length + 10 * ([e.log, e.next, e.seq, e.least] : List Int).length := by rw [eL17, List.length_append]; have := numsL_len (ns := [e.log, e.next, e.seq, e.least]) (q4 hw1 hw2 hw3 hw4); omega
  try simp only [List.length_cons, List.length_nil] at lL17
  have hea := hea.mono hG17
  have hed := hed.mono hG17
  have hbb1 := hbb1.mono hG17
  have hgn := hgn.mono hG17
  have hs16 := hs16.mono hG17
  refine asg rfl .no (.u rfl) ?_
  refine .nil ?_
  refine .code ?_
  refine .seq ?_
  refine Wk.mix ⟨false, false⟩ Fx.mix (by kernel_rfl) ?_
  refine Wt.one 0 (by kernel_rfl) ?_
  refine mv rfl .no (.u rfl) ?_
  refine .nil ?_
  refine Wt.one 1 (by kernel_rfl) ?_
  refine fa rfl .no Fx.fo32_4 (.u rfl) ?_
  refine .nil ?_
  refine Wt.one 2 (by kernel_rfl) ?_
  refine sa0 rfl .no Fx.ar25 (.u rfl) ?_
  refine .nil ?_
  refine Wt.one 4 (by kernel_rfl) ?_
  refine fa rfl .no Fx.fo32_5 (.u rfl) ?_
  refine .nil ?_
  refine Wt.one 5 (by kernel_rfl) ?_
  refine ld rfl .no Fx.ag22 (.u rfl) (fun _ => (hbb1.rd (by rfl)).rd) ?_
  refine .nil ?_
  refine Wt.one 6 (by kernel_rfl) ?_
  refine ln rfl .no Fx.sn22 (.u rfl) ?_
  refine .nil ?_
  refine Wt.one 7 (by kernel_rfl) ?_
  refine cw rfl .no Fx.cv3_24 (.u rfl) (fun _ => wrap_u64 (by omega) (by omega)) ?_
  refine .nil ?_
  refine Wt.b2 3 8 (by kernel_rfl) ?_ ?_
  · refine kc rfl Fx.go44 (Eva.cons (.u rfl) (Eva.cons (.u rfl) Eva.nil)) (numbers_ok L17 h17 (gensL e) ⟨some ⟨b1, 4, none⟩, 5⟩ _ hs17 hgn (gens_u hw) (by show _ + 10 * 5 ≤ _; omega)) ?_
    rintro _ G21 μ21 hG21 ⟨h21, L21, eL21, rfl, rfl, hs21⟩
    have lL21 : L21.length ≤ L17.length + 10 * ((gensL e) : List Int).length := by rw [eL21, List.length_append]; have := numsL_len (ns := (gensL e)) (gens_u hw); omega
    try simp only [List.length_cons, List.length_nil] at lL21
    have hea := hea.mono hG21
    have hed := hed.mono hG21
    have hbb1 := hbb1.mono hG21
    have hgn := hgn.mono hG21
    have hs16 := hs16.mono hG21
    have hs17 := hs17.mono hG21
    refine .nil ?_
    refine Wt.b1 8 (by kernel_rfl) ?_
    refine bQ [(e.add.length : Int)] rfl Fx.se84 Fx.zv24 (Evp.cons (.u rfl) Evp.nil) rfl rfl (by decide) ?_; intro G26 h26 hG26 hs26
    have hea := hea.mono hG26
    have hed := hed.mono hG26
    have hbb1 := hbb1.mono hG26
    have hgn := hgn.mono hG26
    have hs16 := hs16.mono hG26
    have hs17 := hs17.mono hG26
    have hs21 := hs21.mono hG26
    refine .nil ?_
    refine Wt.b1 9 (by kernel_rfl) ?_
    refine kc rfl Fx.go44 (Eva.cons (.u rfl) (Eva.cons (.u rfl) Eva.nil)) (numbers_ok L21 h21 [(e.add.length : Int)] h26 _ hs21 hs26 (q1 (u64_len (by omega))) (by simp only [List.length_cons, List.length_nil]; omega)) ?_
    rintro _ G27 μ27 hG27 ⟨h27, L27, eL27, rfl, rfl, hs27⟩
    have lL27 : L27.length ≤ L21.length + 10 * ([(e.add.length : Int)] : List Int).length := by rw [eL27, List.length_append]; have := numsL_len (ns := [(e.add.length : Int)]) (q1 (u64_len (by omega))); omega
    try simp only [List.length_cons, List.length_nil] at lL27
    have hea := hea.mono hG27
    have hed := hed.mono hG27
    have hbb1 := hbb1.mono hG27
    have hgn := hgn.mono hG27
    have hs16 := hs16.mono hG27
    have hs17 := hs17.mono hG27
    have hs21 := hs21.mono hG27
    have hs26 := hs26.mono hG27
    refine .nil ?_
    refine Wt.one 10 (by kernel_rfl) ?_
    refine asg rfl .no (.u rfl) ?_
    refine .nil ?_
    refine Wt.last (by kernel_rfl) ?_
    refine .code ?_
    refine .seq ?_
    refine .seq ?_
    refine Wk.rg [0, 1, 2, 3] rfl rfl ?_
    refine fa rfl .no Fx.fo32_5 (.u rfl) ?_
    refine ld rfl .no Fx.ag22 (.u rfl) (fun _ => (hbb1.rd (by rfl)).rd) ?_
    refine ln rfl .no Fx.sn22 (.u rfl) ?_
    refine mv rfl .no (.u rfl) ?_
    refine .nil ?_
    refine .code ?_
    refine .block ?_
    refine Wk.lop (α := Nat × Sh × List Y) (fun gh => [(3, true, gh.2.1.val gh.2.2.length), (31, true, .int .i64 (gh.1 : Int))]) (fun _ => [])
      (fun gh Gl => (gh.1 ≤ e.add.length) ∧ (gh.2.2 = L27 ++ (e.add.take gh.1).flatMap encM) ∧ (SlR Gl 1 encY gh.2.1 gh.2.2)) (fun gh => e.add.length - gh.1) (0, h27, L27) [(1, true, _), (29, true, _), (30, true, _)] []
      (ESub.cons rfl rfl (ESub.cons rfl (by first | rfl | exact evi (by omega)) (ESub.cons rfl rfl (ESub.cons rfl rfl (ESub.cons rfl rfl ESub.nil)))))
      MSub.nil ?_ ?_
    · refine ⟨?_, ?_, ?_⟩
      · (try dsimp only) <;> (first | omega | rfl | assumption | (simp; done))
      · (try dsimp only) <;> (simp)
      · (try dsimp only) <;> (exact hs27)
    intro gh N0 Gl0 hN0 hGl0 hF0
    obtain ⟨k, h3, L3⟩ := gh; dsimp only at hF0 hN0 ⊢
    obtain ⟨hk, eL, hsl⟩ := hF0
    have hea := hea.mono hGl0
    have hed := hed.mono hGl0
    have hbb1 := hbb1.mono hGl0
    have hgn := hgn.mono hGl0
    have hs16 := hs16.mono hGl0
    have hs17 := hs17.mono hGl0
    have hs21 := hs21.mono hGl0
    have hs26 := hs26.mono hGl0
    have hs27 := hs27.mono hGl0
    have lk := flat_take_le (f := encM) (xs := e.add) k
    have lL : L3.length = L27.length + ((e.add.take k).flatMap encM).length := by rw [eL, List.length_append]
    refine .seq ?_
    refine Wk.rg [0] rfl rfl ?_
    refine cp rfl .no (.u rfl) (.u rfl) rfl ?_
    refine .nil ?_
    refine .code ?_
    refine .seq ?_
    refine .cond rfl (fun c1 => ?_) (fun c1 => ?_)
    · have c1k := c1
      try simp only [decide_eq_true_eq, decide_eq_false_iff_not, Int.not_lt, Int.not_le, gt_iff_lt, ge_iff_le, Bool.or_eq_true, Bool.and_eq_true, Bool.or_eq_false_iff, Bool.not_eq_true', Bool.not_eq_false', Int.toNat_natCast, bne_iff_ne, beq_iff_eq, bne_eq_false_iff_eq, beq_eq_false_iff_ne, ne_eq] at c1
      refine .skip ?_
      refine .code ?_
      refine .seq ?_
      refine .block ?_
      refine .seq ?_
      refine Wk.rg [0, 1, 2, 3] rfl rfl ?_
      refine ih rfl .no Fx.se22 (.u rfl) (.u rfl) (fun _ => by omega) (fun _ => by omega) (fun _ => hea.nn (k := k) (by first | omega | (simp only [List.length_cons, List.length_nil]; omega))) ?_
      obtain ⟨m, em⟩ := getx (k := k) (xs := e.add) (by omega)
      refine lA rfl .no Fx.ag48 (.u rfl) (fun _ => (hea.at (by omega) em).rd) (fun _ => Meta.len _) ?_
      refine al rfl Fx.zr48 ?_; intro b5
      refine sw rfl (.u rfl) (.u rfl) rfl Fx.sz48 .here rfl (Meta.one _) ?_
      refine .nil ?_
      refine .code ?_
      refine .seq ?_
      refine wk_fz .here (by intro b hb; cases hb) ?_; intro Gfb5 hleb5 hbb5
      have hea := hea.mono hleb5
      have hed := hed.mono hleb5
      have hbb1 := hbb1.mono hleb5
      have hgn := hgn.mono hleb5
      have hs16 := hs16.mono hleb5
      have hs17 := hs17.mono hleb5
      have hs21 := hs21.mono hleb5
      have hs26 := hs26.mono hleb5
      have hs27 := hs27.mono hleb5
      have hsl := hsl.mono hleb5
      have hwm := hw.add m (List.mem_of_getElem? em); have w1 := hwm.level; have w2 := hwm.gen; have w3 := hwm.epoch; have w4 := hwm.number; have l6 := u64_6 hwm; have lt := flat_take (f := encM) em; have lg := encM_ge m
      refine Wk.rg [0, 1, 2, 3, 4, 5, 6, 7, 8, 9, 10, 11, 12, 13, 14, 15, 16, 17, 18] rfl rfl ?_
      refine mv rfl .no (.u rfl) ?_
      refine fa rfl .no Fx.fo48_0 (.u rfl) ?_
      refine ld rfl .no Fx.ag5 (.u rfl) (fun _ => (hbb5.rd (by rfl)).rd) ?_
      refine cw rfl .no Fx.cv5_24 (.u rfl) (fun _ => wrap_u64 (by omega) (by omega)) ?_
      refine fa rfl .no Fx.fo48_1 (.u rfl) ?_
      refine ld rfl .no Fx.ag24 (.u rfl) (fun _ => (hbb5.rd (by rfl)).rd) ?_
      refine fa rfl .no Fx.fo48_2 (.u rfl) ?_
      refine ld rfl .no Fx.ag24 (.u rfl) (fun _ => (hbb5.rd (by rfl)).rd) ?_
      refine fa rfl .no Fx.fo48_3 (.u rfl) ?_
      refine ld rfl .no Fx.ag24 (.u rfl) (fun _ => (hbb5.rd (by rfl)).rd) ?_
      refine fa rfl .no Fx.fo48_4 (.u rfl) ?_
      refine ld rfl .no Fx.ag3 (.u rfl) (fun _ => (hbb5.rd (by rfl)).rd) ?_
      refine cv rfl .no Fx.cv3_24 (.u rfl) ?_
      refine fa rfl .no Fx.fo48_5 (.u rfl) ?_
      refine ld rfl .no Fx.ag3 (.u rfl) (fun _ => (hbb5.rd (by rfl)).rd) ?_
      refine cv rfl .no Fx.cv3_24 (.u rfl) ?_
      refine bQ [m.level, m.gen, m.epoch, m.number, IntKind.u64.wrap m.size, IntKind.u64.wrap m.count] rfl Fx.se84 Fx.zv24 (Evp.cons (.u rfl) (Evp.cons (.u rfl) (Evp.cons (.u rfl) (Evp.cons (.u rfl) (Evp.cons (.u rfl) (Evp.cons (.u rfl) Evp.nil)))))) rfl rfl (by decide) ?_; intro G51 h51 hG51 hs51
      have hea := hea.mono hG51
      have hed := hed.mono hG51
      have hbb1 := hbb1.mono hG51
      have hgn := hgn.mono hG51
      have hs16 := hs16.mono hG51
      have hs17 := hs17.mono hG51
      have hs21 := hs21.mono hG51
      have hs26 := hs26.mono hG51
      have hs27 := hs27.mono hG51
      have hsl := hsl.mono hG51
      have hbb5 := hbb5.mono hG51
      refine kc rfl Fx.go44 (Eva.cons (.u rfl) (Eva.cons (.u rfl) Eva.nil)) (numbers_ok L3 h3 [m.level, m.gen, m.epoch, m.number, IntKind.u64.wrap m.size, IntKind.u64.wrap m.count] h51 _ hsl hs51 l6 (by simp only [List.length_cons, List.length_nil]; omega)) ?_
      rintro _ G52 μ52 hG52 ⟨h52, L52, eL52, rfl, rfl, hs52⟩
      have lL52 : L52.length ≤ L3.length + 10 * ([m.level, m.gen, m.epoch, m.number, IntKind.u64.wrap m.size, IntKind.u64.wrap m.count] : List Int).length := by rw [eL52, List.length_append]; have := numsL_len (ns := [m.level, m.gen, m.epoch, m.number, IntKind.u64.wrap m.size, IntKind.u64.wrap m.count]) l6; omega
      try simp only [List.length_cons, List.length_nil] at lL52
      have hea := hea.mono hG52
      have hed := hed.mono hG52
      have hbb1 := hbb1.mono hG52
      have hgn := hgn.mono hG52
      have hs16 := hs16.mono hG52
      have hs17 := hs17.mono hG52
      have hs21 := hs21.mono hG52
      have hs26 := hs26.mono hG52
      have hs27 := hs27.mono hG52
      have hsl := hsl.mono hG52
      have hbb5 := hbb5.mono hG52
      have hs51 := hs51.mono hG52
      refine asg rfl .no (.u rfl) ?_
      refine .nil ?_
      refine .code ?_
      refine Wk.draw (mc := ⟨false, false⟩) [0, 1, 2, 4, 5, 7, 8, 3, 6, 9, 10] Fx.mix (by kernel_rfl) ?_
      refine mv rfl .no (.u rfl) ?_
      refine fa rfl .no Fx.fo48_6 (.u rfl) ?_
      refine ld rfl .no Fx.ag9 (.u rfl) (fun _ => (hbb5.rd (by rfl)).rd) ?_
      refine fa rfl .no Fx.fo48_7 (.u rfl) ?_
      refine ld rfl .no Fx.ag9 (.u rfl) (fun _ => (hbb5.rd (by rfl)).rd) ?_
      refine fa rfl .no Fx.fo48_8 (.u rfl) ?_
      refine kA rfl .no Fx.ar46 (.u rfl) hbb5 (meta_ba hwm) ?_; intro h61 L61 eL61 lL61 hs61
      have ly := yb_len m.min; have ly2 := yb_len m.max
      refine kc rfl Fx.go45 (Eva.cons (.u rfl) (Eva.cons (.u rfl) Eva.nil)) (Ct.frzB (Str_ok L52 h52 _ hs52 m.min (by omega))) ?_
      rintro _ G56 μ56 hG56 ⟨h56, L56, eL56, rfl, rfl, hs56⟩
      have hea := hea.mono hG56
      have hed := hed.mono hG56
      have hbb1 := hbb1.mono hG56
      have hgn := hgn.mono hG56
      have hs16 := hs16.mono hG56
      have hs17 := hs17.mono hG56
      have hs21 := hs21.mono hG56
      have hs26 := hs26.mono hG56
      have hs27 := hs27.mono hG56
      have hsl := hsl.mono hG56
      have hbb5 := hbb5.mono hG56
      have hs51 := hs51.mono hG56
      have hs52 := hs52.mono hG56
      have hs61 := hs61.mono hG56
      have l56 : L56.length ≤ L52.length + (m.min.size + 10) := by rw [eL56, List.length_append]; have := strL_len (xs := yb m.min) (by omega); omega
      refine kc rfl Fx.go45 (Eva.cons (.u rfl) (Eva.cons (.u rfl) Eva.nil)) (Ct.rowc (Str_ok L56 h56 _ hs56 m.max (by omega))) ?_
      rintro v59 G59 μ59 hG59 ⟨L59, ov59, eL59, rfl⟩
      have hea := hea.mono hG59
      have hed := hed.mono hG59
      have hbb1 := hbb1.mono hG59
      have hgn := hgn.mono hG59
      have hs16 := hs16.mono hG59
      have hs17 := hs17.mono hG59
      have hs21 := hs21.mono hG59
      have hs26 := hs26.mono hG59
      have hs27 := hs27.mono hG59
      have hsl := hsl.mono hG59
      have hbb5 := hbb5.mono hG59
      have hs51 := hs51.mono hG59
      have hs52 := hs52.mono hG59
      have hs61 := hs61.mono hG59
      have hs56 := hs56.mono hG59
      have l59 : L59.length ≤ L56.length + (m.max.size + 10) := by rw [eL59, List.length_append]; have := strL_len (xs := yb m.max) (by omega); omega
      refine apY rfl Fx.se33 Fx.zv5 (.u rfl) (.u rfl) .here hs61.sc (by (try simp only [List.length_append, List.length_cons, List.length_nil, yl_len]); omega) ?_
      intro v62 L62 ov62 eL62
      have lL62 : L62.length = L59.length + L61.length := by rw [eL62, List.length_append]
      refine asg rfl .no (.u rfl) ?_
      refine .nil ?_
      refine .blk ?_
      refine .code ?_
      refine wk_fb .here (by first | (intro b hb; cases hb; done) | simp [keys, Res.keys]) ?_; intro GfR59 hR59 hleR59 evR59 hsR59; subst evR59
      have hea := hea.mono hleR59
      have hed := hed.mono hleR59
      have hbb1 := hbb1.mono hleR59
      have hgn := hgn.mono hleR59
      have hs16 := hs16.mono hleR59
      have hs17 := hs17.mono hleR59
      have hs21 := hs21.mono hleR59
      have hs26 := hs26.mono hleR59
      have hs27 := hs27.mono hleR59
      have hsl := hsl.mono hleR59
      have hbb5 := hbb5.mono hleR59
      have hs51 := hs51.mono hleR59
      have hs52 := hs52.mono hleR59
      have hs61 := hs61.mono hleR59
      have hs56 := hs56.mono hleR59
      refine Wk.rg [0, 1] rfl rfl ?_
      refine arn (((k + 1) : Nat) : Int) rfl .no (.u rfl) (.u rfl) rfl (fun _ => by omega) (fun _ => wrap_i64 (by omega) (by omega)) ?_
      refine mv rfl .no (.u rfl) ?_
      refine .nil ?_
      refine We.lpo (k + 1, hR59, L62) ?_ ?_ ?_ ?_ ?_
      · exact (ESub.cons rfl rfl (ESub.cons rfl (by first | rfl | exact evi (by omega)) (ESub.cons rfl rfl (ESub.cons rfl rfl (ESub.cons rfl rfl ESub.nil)))))
      · exact MSub.nil
      · first | omega | (dsimp only; omega)
      · exact ((((((hGl0).trans hleb5).trans hG51).trans hG52).trans hG56).trans hG59).trans hleR59
      · refine ⟨?_, ?_, ?_⟩
        · (try dsimp only) <;> (first | omega | rfl | assumption | (simp; done))
        · (try dsimp only) <;> (rw [eL62, eL59, eL56, eL52, eL61, encM_eq, eL, flat_snoc em, List.append_assoc])
        · (try dsimp only) <;> (exact hsR59)
    · have c1k := c1
      try simp only [decide_eq_true_eq, decide_eq_false_iff_not, Int.not_lt, Int.not_le, gt_iff_lt, ge_iff_le, Bool.or_eq_true, Bool.and_eq_true, Bool.or_eq_false_iff, Bool.not_eq_true', Bool.not_eq_false', Int.toNat_natCast, bne_iff_ne, beq_iff_eq, bne_eq_false_iff_eq, beq_eq_false_iff_ne, ne_eq] at c1
      refine .exit ?_
      refine .xcode ?_
      refine .xlp ?_
      refine .xblk ?_
      refine .code ?_
      refine .seq ?_
      refine Wk.rg [0, 1, 2, 3, 4, 5, 6, 7] rfl rfl ?_
      refine mv rfl .no (.u rfl) ?_
      refine fa rfl .no Fx.fo32_6 (.u rfl) ?_
      refine ld rfl .no Fx.ag30 (.u rfl) (fun _ => (hbb1.rd (by rfl)).rd) ?_
      refine ln rfl .no Fx.sn30 (.u rfl) ?_
      refine cw rfl .no Fx.cv3_24 (.u rfl) (fun _ => wrap_u64 (by omega) (by omega)) ?_
      refine bQ [(e.drop.length : Int)] rfl Fx.se84 Fx.zv24 (Evp.cons (.u rfl) Evp.nil) rfl rfl (by decide) ?_; intro G69 h69 hG69 hs69
      have hea := hea.mono hG69
      have hed := hed.mono hG69
      have hbb1 := hbb1.mono hG69
      have hgn := hgn.mono hG69
      have hs16 := hs16.mono hG69
      have hs17 := hs17.mono hG69
      have hs21 := hs21.mono hG69
      have hs26 := hs26.mono hG69
      have hs27 := hs27.mono hG69
      have hsl := hsl.mono hG69
      refine kc rfl Fx.go44 (Eva.cons (.u rfl) (Eva.cons (.u rfl) Eva.nil)) (numbers_ok L3 h3 [(e.drop.length : Int)] h69 _ hsl hs69 (q1 (u64_len (by omega))) (by simp only [List.length_cons, List.length_nil]; omega)) ?_
      rintro _ G70 μ70 hG70 ⟨h70, L70, eL70, rfl, rfl, hs70⟩
      have lL70 : L70.length ≤ L3.length + 10 * ([(e.drop.length : Int)] : List Int).length := by rw [eL70, List.length_append]; have := numsL_len (ns := [(e.drop.length : Int)]) (q1 (u64_len (by omega))); omega
      try simp only [List.length_cons, List.length_nil] at lL70
      have hea := hea.mono hG70
      have hed := hed.mono hG70
      have hbb1 := hbb1.mono hG70
      have hgn := hgn.mono hG70
      have hs16 := hs16.mono hG70
      have hs17 := hs17.mono hG70
      have hs21 := hs21.mono hG70
      have hs26 := hs26.mono hG70
      have hs27 := hs27.mono hG70
      have hsl := hsl.mono hG70
      have hs69 := hs69.mono hG70
      refine asg rfl .no (.u rfl) ?_
      refine .nil ?_
      refine .code ?_
      refine .seq ?_
      refine .seq ?_
      refine Wk.rg [0, 1, 2, 3] rfl rfl ?_
      refine fa rfl .no Fx.fo32_6 (.u rfl) ?_
      refine ld rfl .no Fx.ag30 (.u rfl) (fun _ => (hbb1.rd (by rfl)).rd) ?_
      refine ln rfl .no Fx.sn30 (.u rfl) ?_
      refine mv rfl .no (.u rfl) ?_
      refine .nil ?_
      refine .code ?_
      refine .block ?_
      refine Wk.lop (α := Nat × Sh × List Y) (fun gh => [(3, true, gh.2.1.val gh.2.2.length), (74, true, .int .i64 (gh.1 : Int))]) (fun _ => [])
        (fun gh Gl => (gh.1 ≤ e.drop.length) ∧ (gh.2.2 = L70 ++ (e.drop.take gh.1).flatMap encG) ∧ (SlR Gl 1 encY gh.2.1 gh.2.2)) (fun gh => e.drop.length - gh.1) (0, h70, L70) [(72, true, _), (73, true, _)] []
        (ESub.cons rfl rfl (ESub.cons rfl (by first | rfl | exact evi (by omega)) (ESub.cons rfl rfl (ESub.cons rfl rfl ESub.nil))))
        MSub.nil ?_ ?_
      · refine ⟨?_, ?_, ?_⟩
        · (try dsimp only) <;> (first | omega | rfl | assumption | (simp; done))
        · (try dsimp only) <;> (simp)
        · (try dsimp only) <;> (exact hs70)
      intro gh N1 Gl1 hN1 hGl1 hF1
      obtain ⟨j, h9, L9⟩ := gh; dsimp only at hF1 hN1 ⊢
      obtain ⟨hj, eL9, hsl2⟩ := hF1
      have hea := hea.mono hGl1
      have hed := hed.mono hGl1
      have hbb1 := hbb1.mono hGl1
      have hgn := hgn.mono hGl1
      have hs16 := hs16.mono hGl1
      have hs17 := hs17.mono hGl1
      have hs21 := hs21.mono hGl1
      have hs26 := hs26.mono hGl1
      have hs27 := hs27.mono hGl1
      have hsl := hsl.mono hGl1
      have hs69 := hs69.mono hGl1
      have hs70 := hs70.mono hGl1
      have lk2 := flat_take_le (f := encG) (xs := e.drop) j
      have ld2 := gonesL hw.drop
      have lL9 : L9.length = L70.length + ((e.drop.take j).flatMap encG).length := by rw [eL9, List.length_append]
      refine .seq ?_
      refine Wk.rg [0] rfl rfl ?_
      refine cp rfl .no (.u rfl) (.u rfl) rfl ?_
      refine .nil ?_
      refine .code ?_
      refine .seq ?_
      refine .cond rfl (fun c2 => ?_) (fun c2 => ?_)
      · have c2k := c2
        try simp only [decide_eq_true_eq, decide_eq_false_iff_not, Int.not_lt, Int.not_le, gt_iff_lt, ge_iff_le, Bool.or_eq_true, Bool.and_eq_true, Bool.or_eq_false_iff, Bool.not_eq_true', Bool.not_eq_false', Int.toNat_natCast, bne_iff_ne, beq_iff_eq, bne_eq_false_iff_eq, beq_eq_false_iff_ne, ne_eq] at c2
        refine .skip ?_
        refine .code ?_
        refine .seq ?_
        refine .block ?_
        refine .seq ?_
        refine Wk.rg [0, 1, 2, 3] rfl rfl ?_
        refine ih rfl .no Fx.se30 (.u rfl) (.u rfl) (fun _ => by omega) (fun _ => by omega) (fun _ => hed.nn (k := j) (by first | omega | (simp only [List.length_cons, List.length_nil]; omega))) ?_
        obtain ⟨g, eg⟩ := getx (k := j) (xs := e.drop) (by omega)
        refine lA rfl .no Fx.ag51 (.u rfl) (fun _ => (hed.at (by omega) eg).rd) (fun _ => rfl) ?_
        refine al rfl Fx.zr51 ?_; intro b7
        refine sw rfl (.u rfl) (.u rfl) rfl Fx.sz51 .here rfl (gones1) ?_
        refine .nil ?_
        refine .code ?_
        refine wk_fz .here (by intro b hb; cases hb) ?_; intro Gfb7 hleb7 hbb7
        have hea := hea.mono hleb7
        have hed := hed.mono hleb7
        have hbb1 := hbb1.mono hleb7
        have hgn := hgn.mono hleb7
        have hs16 := hs16.mono hleb7
        have hs17 := hs17.mono hleb7
        have hs21 := hs21.mono hleb7
        have hs26 := hs26.mono hleb7
        have hs27 := hs27.mono hleb7
        have hsl := hsl.mono hleb7
        have hs69 := hs69.mono hleb7
        have hs70 := hs70.mono hleb7
        have hsl2 := hsl2.mono hleb7
        have hwg := hw.drop g (List.mem_of_getElem? eg); have w1 := hwg.level; have w2 := hwg.number; have lt := flat_take (f := encG) eg
        refine Wk.rg [0, 1, 2, 3, 4, 5, 6, 7, 8] rfl rfl ?_
        refine mv rfl .no (.u rfl) ?_
        refine fa rfl .no Fx.fo51_0 (.u rfl) ?_
        refine ld rfl .no Fx.ag5 (.u rfl) (fun _ => (hbb7.rd (by rfl)).rd) ?_
        refine cw rfl .no Fx.cv5_24 (.u rfl) (fun _ => wrap_u64 (by omega) (by omega)) ?_
        refine fa rfl .no Fx.fo51_1 (.u rfl) ?_
        refine ld rfl .no Fx.ag24 (.u rfl) (fun _ => (hbb7.rd (by rfl)).rd) ?_
        refine bQ [g.level, g.number] rfl Fx.se84 Fx.zv24 (Evp.cons (.u rfl) (Evp.cons (.u rfl) Evp.nil)) rfl rfl (by decide) ?_; intro G84 h84 hG84 hs84
        have hea := hea.mono hG84
        have hed := hed.mono hG84
        have hbb1 := hbb1.mono hG84
        have hgn := hgn.mono hG84
        have hs16 := hs16.mono hG84
        have hs17 := hs17.mono hG84
        have hs21 := hs21.mono hG84
        have hs26 := hs26.mono hG84
        have hs27 := hs27.mono hG84
        have hsl := hsl.mono hG84
        have hs69 := hs69.mono hG84
        have hs70 := hs70.mono hG84
        have hsl2 := hsl2.mono hG84
        have hbb7 := hbb7.mono hG84
        refine kc rfl Fx.go44 (Eva.cons (.u rfl) (Eva.cons (.u rfl) Eva.nil)) (numbers_ok L9 h9 [g.level, g.number] h84 _ hsl2 hs84 (q2 ⟨by omega, by omega⟩ ⟨by omega, by omega⟩) (by simp only [List.length_cons, List.length_nil]; omega)) ?_
        rintro _ G85 μ85 hG85 ⟨h85, L85, eL85, rfl, rfl, hs85⟩
        have lL85 : L85.length ≤ L9.length + 10 * ([g.level, g.number] : List Int).length := by rw [eL85, List.length_append]; have := numsL_len (ns := [g.level, g.number]) (q2 ⟨by omega, by omega⟩ ⟨by omega, by omega⟩); omega
        try simp only [List.length_cons, List.length_nil] at lL85
        have hea := hea.mono hG85
        have hed := hed.mono hG85
        have hbb1 := hbb1.mono hG85
        have hgn := hgn.mono hG85
        have hs16 := hs16.mono hG85
        have hs17 := hs17.mono hG85
        have hs21 := hs21.mono hG85
        have hs26 := hs26.mono hG85
        have hs27 := hs27.mono hG85
        have hsl := hsl.mono hG85
        have hs69 := hs69.mono hG85
        have hs70 := hs70.mono hG85
        have hsl2 := hsl2.mono hG85
        have hbb7 := hbb7.mono hG85
        have hs84 := hs84.mono hG85
        refine asg rfl .no (.u rfl) ?_
        refine .nil ?_
        refine .blk ?_
        refine .code ?_
        refine Wk.rg [0, 1] rfl rfl ?_
        refine arn (((j + 1) : Nat) : Int) rfl .no (.u rfl) (.u rfl) rfl (fun _ => by omega) (fun _ => wrap_i64 (by omega) (by omega)) ?_
        refine mv rfl .no (.u rfl) ?_
        refine .nil ?_
        refine We.lpo (j + 1, h85, L85) ?_ ?_ ?_ ?_ ?_
        · exact (ESub.cons rfl rfl (ESub.cons rfl (by first | rfl | exact evi (by omega)) (ESub.cons rfl rfl (ESub.cons rfl rfl ESub.nil))))
        · exact MSub.nil
        · first | omega | (dsimp only; omega)
        · exact (((hGl1).trans hleb7).trans hG84).trans hG85
        · refine ⟨?_, ?_, ?_⟩
          · (try dsimp only) <;> (first | omega | rfl | assumption | (simp; done))
          · (try dsimp only) <;> (rw [eL85, encG_eq, eL9, flat_snoc eg, List.append_assoc])
          · (try dsimp only) <;> (exact hs85)
      · have c2k := c2
        try simp only [decide_eq_true_eq, decide_eq_false_iff_not, Int.not_lt, Int.not_le, gt_iff_lt, ge_iff_le, Bool.or_eq_true, Bool.and_eq_true, Bool.or_eq_false_iff, Bool.not_eq_true', Bool.not_eq_false', Int.toNat_natCast, bne_iff_ne, beq_iff_eq, bne_eq_false_iff_eq, beq_eq_false_iff_ne, ne_eq] at c2
        refine .exit ?_
        refine .xcode ?_
        refine .xlp ?_
        refine .xblk ?_
        refine .code ?_
        refine .seq ?_
        refine Wk.rg [0, 1] rfl rfl ?_
        refine mv rfl .no (.u rfl) ?_
        refine asg rfl .no (.u rfl) ?_
        refine .nil ?_
        refine .code ?_
        refine .ret ?_
        refine We.fin0 Try.results17 (.tmp rfl .nil) ?_
        obtain rfl : k = e.add.length := by omega
        obtain rfl : j = e.drop.length := by omega
        rw [List.take_length] at eL eL9
        exact ⟨h9, L9, by rw [eL9, eL70, eL, eL27, eL21, eL17, List.nil_append, encE_eq], rfl, rfl, hsl2⟩
  · refine bQ [(e.add.length : Int)] rfl Fx.se84 Fx.zv24 (Evp.cons (.u rfl) Evp.nil) rfl rfl (by decide) ?_; intro G26 h26 hG26 hs26
    have hea := hea.mono hG26
    have hed := hed.mono hG26
    have hbb1 := hbb1.mono hG26
    have hgn := hgn.mono hG26
    have hs16 := hs16.mono hG26
    have hs17 := hs17.mono hG26
    refine .nil ?_
    refine Wt.b1 3 (by kernel_rfl) ?_
    refine kc rfl Fx.go44 (Eva.cons (.u rfl) (Eva.cons (.u rfl) Eva.nil)) (numbers_ok L17 h17 (gensL e) ⟨some ⟨b1, 4, none⟩, 5⟩ _ hs17 hgn (gens_u hw) (by show _ + 10 * 5 ≤ _; omega)) ?_
    rintro _ G21 μ21 hG21 ⟨h21, L21, eL21, rfl, rfl, hs21⟩
    have lL21 : L21.length ≤ L17.length + 10 * ((gensL e) : List Int).length := by rw [eL21, List.length_append]; have := numsL_len (ns := (gensL e)) (gens_u hw); omega
    try simp only [List.length_cons, List.length_nil] at lL21
    have hea := hea.mono hG21
    have hed := hed.mono hG21
    have hbb1 := hbb1.mono hG21
    have hgn := hgn.mono hG21
    have hs16 := hs16.mono hG21
    have hs17 := hs17.mono hG21
    have hs26 := hs26.mono hG21
    refine .nil ?_
    refine Wt.b1 9 (by kernel_rfl) ?_
    refine kc rfl Fx.go44 (Eva.cons (.u rfl) (Eva.cons (.u rfl) Eva.nil)) (numbers_ok L21 h21 [(e.add.length : Int)] h26 _ hs21 hs26 (q1 (u64_len (by omega))) (by simp only [List.length_cons, List.length_nil]; omega)) ?_
    rintro _ G27 μ27 hG27 ⟨h27, L27, eL27, rfl, rfl, hs27⟩
    have lL27 : L27.length ≤ L21.length + 10 * ([(e.add.length : Int)] : List Int).length := by rw [eL27, List.length_append]; have := numsL_len (ns := [(e.add.length : Int)]) (q1 (u64_len (by omega))); omega
    try simp only [List.length_cons, List.length_nil] at lL27
    have hea := hea.mono hG27
    have hed := hed.mono hG27
    have hbb1 := hbb1.mono hG27
    have hgn := hgn.mono hG27
    have hs16 := hs16.mono hG27
    have hs17 := hs17.mono hG27
    have hs26 := hs26.mono hG27
    have hs21 := hs21.mono hG27
    refine .nil ?_
    refine Wt.one 10 (by kernel_rfl) ?_
    refine asg rfl .no (.u rfl) ?_
    refine .nil ?_
    refine Wt.last (by kernel_rfl) ?_
    refine .code ?_
    refine .seq ?_
    refine .seq ?_
    refine Wk.rg [0, 1, 2, 3] rfl rfl ?_
    refine fa rfl .no Fx.fo32_5 (.u rfl) ?_
    refine ld rfl .no Fx.ag22 (.u rfl) (fun _ => (hbb1.rd (by rfl)).rd) ?_
    refine ln rfl .no Fx.sn22 (.u rfl) ?_
    refine mv rfl .no (.u rfl) ?_
    refine .nil ?_
    refine .code ?_
    refine .block ?_
    refine Wk.lop (α := Nat × Sh × List Y) (fun gh => [(3, true, gh.2.1.val gh.2.2.length), (31, true, .int .i64 (gh.1 : Int))]) (fun _ => [])
      (fun gh Gl => (gh.1 ≤ e.add.length) ∧ (gh.2.2 = L27 ++ (e.add.take gh.1).flatMap encM) ∧ (SlR Gl 1 encY gh.2.1 gh.2.2)) (fun gh => e.add.length - gh.1) (0, h27, L27) [(1, true, _), (29, true, _), (30, true, _)] []
      (ESub.cons rfl rfl (ESub.cons rfl (by first | rfl | exact evi (by omega)) (ESub.cons rfl rfl (ESub.cons rfl rfl (ESub.cons rfl rfl ESub.nil)))))
      MSub.nil ?_ ?_
    · refine ⟨?_, ?_, ?_⟩
      · (try dsimp only) <;> (first | omega | rfl | assumption | (simp; done))
      · (try dsimp only) <;> (simp)
      · (try dsimp only) <;> (exact hs27)
    intro gh N0 Gl0 hN0 hGl0 hF0
    obtain ⟨k, h3, L3⟩ := gh; dsimp only at hF0 hN0 ⊢
    obtain ⟨hk, eL, hsl⟩ := hF0
    have hea := hea.mono hGl0
    have hed := hed.mono hGl0
    have hbb1 := hbb1.mono hGl0
    have hgn := hgn.mono hGl0
    have hs16 := hs16.mono hGl0
    have hs17 := hs17.mono hGl0
    have hs26 := hs26.mono hGl0
    have hs21 := hs21.mono hGl0
    have hs27 := hs27.mono hGl0
    have lk := flat_take_le (f := encM) (xs := e.add) k
    have lL : L3.length = L27.length + ((e.add.take k).flatMap encM).length := by rw [eL, List.length_append]
    refine .seq ?_
    refine Wk.rg [0] rfl rfl ?_
    refine cp rfl .no (.u rfl) (.u rfl) rfl ?_
    refine .nil ?_
    refine .code ?_
    refine .seq ?_
    refine .cond rfl (fun c1 => ?_) (fun c1 => ?_)
    · have c1k := c1
      try simp only [decide_eq_true_eq, decide_eq_false_iff_not, Int.not_lt, Int.not_le, gt_iff_lt, ge_iff_le, Bool.or_eq_true, Bool.and_eq_true, Bool.or_eq_false_iff, Bool.not_eq_true', Bool.not_eq_false', Int.toNat_natCast, bne_iff_ne, beq_iff_eq, bne_eq_false_iff_eq, beq_eq_false_iff_ne, ne_eq] at c1
      refine .skip ?_
      refine .code ?_
      refine .seq ?_
      refine .block ?_
      refine .seq ?_
      refine Wk.rg [0, 1, 2, 3] rfl rfl ?_
      refine ih rfl .no Fx.se22 (.u rfl) (.u rfl) (fun _ => by omega) (fun _ => by omega) (fun _ => hea.nn (k := k) (by first | omega | (simp only [List.length_cons, List.length_nil]; omega))) ?_
      obtain ⟨m, em⟩ := getx (k := k) (xs := e.add) (by omega)
      refine lA rfl .no Fx.ag48 (.u rfl) (fun _ => (hea.at (by omega) em).rd) (fun _ => Meta.len _) ?_
      refine al rfl Fx.zr48 ?_; intro b5
      refine sw rfl (.u rfl) (.u rfl) rfl Fx.sz48 .here rfl (Meta.one _) ?_
      refine .nil ?_
      refine .code ?_
      refine .seq ?_
      refine wk_fz .here (by intro b hb; cases hb) ?_; intro Gfb5 hleb5 hbb5
      have hea := hea.mono hleb5
      have hed := hed.mono hleb5
      have hbb1 := hbb1.mono hleb5
      have hgn := hgn.mono hleb5
      have hs16 := hs16.mono hleb5
      have hs17 := hs17.mono hleb5
      have hs26 := hs26.mono hleb5
      have hs21 := hs21.mono hleb5
      have hs27 := hs27.mono hleb5
      have hsl := hsl.mono hleb5
      have hwm := hw.add m (List.mem_of_getElem? em); have w1 := hwm.level; have w2 := hwm.gen; have w3 := hwm.epoch; have w4 := hwm.number; have l6 := u64_6 hwm; have lt := flat_take (f := encM) em; have lg := encM_ge m
      refine Wk.rg [0, 1, 2, 3, 4, 5, 6, 7, 8, 9, 10, 11, 12, 13, 14, 15, 16, 17, 18] rfl rfl ?_
      refine mv rfl .no (.u rfl) ?_
      refine fa rfl .no Fx.fo48_0 (.u rfl) ?_
      refine ld rfl .no Fx.ag5 (.u rfl) (fun _ => (hbb5.rd (by rfl)).rd) ?_
      refine cw rfl .no Fx.cv5_24 (.u rfl) (fun _ => wrap_u64 (by omega) (by omega)) ?_
      refine fa rfl .no Fx.fo48_1 (.u rfl) ?_
      refine ld rfl .no Fx.ag24 (.u rfl) (fun _ => (hbb5.rd (by rfl)).rd) ?_
      refine fa rfl .no Fx.fo48_2 (.u rfl) ?_
      refine ld rfl .no Fx.ag24 (.u rfl) (fun _ => (hbb5.rd (by rfl)).rd) ?_
      refine fa rfl .no Fx.fo48_3 (.u rfl) ?_
      refine ld rfl .no Fx.ag24 (.u rfl) (fun _ => (hbb5.rd (by rfl)).rd) ?_
      refine fa rfl .no Fx.fo48_4 (.u rfl) ?_
      refine ld rfl .no Fx.ag3 (.u rfl) (fun _ => (hbb5.rd (by rfl)).rd) ?_
      refine cv rfl .no Fx.cv3_24 (.u rfl) ?_
      refine fa rfl .no Fx.fo48_5 (.u rfl) ?_
      refine ld rfl .no Fx.ag3 (.u rfl) (fun _ => (hbb5.rd (by rfl)).rd) ?_
      refine cv rfl .no Fx.cv3_24 (.u rfl) ?_
      refine bQ [m.level, m.gen, m.epoch, m.number, IntKind.u64.wrap m.size, IntKind.u64.wrap m.count] rfl Fx.se84 Fx.zv24 (Evp.cons (.u rfl) (Evp.cons (.u rfl) (Evp.cons (.u rfl) (Evp.cons (.u rfl) (Evp.cons (.u rfl) (Evp.cons (.u rfl) Evp.nil)))))) rfl rfl (by decide) ?_; intro G51 h51 hG51 hs51
      have hea := hea.mono hG51
      have hed := hed.mono hG51
      have hbb1 := hbb1.mono hG51
      have hgn := hgn.mono hG51
      have hs16 := hs16.mono hG51
      have hs17 := hs17.mono hG51
      have hs26 := hs26.mono hG51
      have hs21 := hs21.mono hG51
      have hs27 := hs27.mono hG51
      have hsl := hsl.mono hG51
      have hbb5 := hbb5.mono hG51
      refine kc rfl Fx.go44 (Eva.cons (.u rfl) (Eva.cons (.u rfl) Eva.nil)) (numbers_ok L3 h3 [m.level, m.gen, m.epoch, m.number, IntKind.u64.wrap m.size, IntKind.u64.wrap m.count] h51 _ hsl hs51 l6 (by simp only [List.length_cons, List.length_nil]; omega)) ?_
      rintro _ G52 μ52 hG52 ⟨h52, L52, eL52, rfl, rfl, hs52⟩
      have lL52 : L52.length ≤ L3.length + 10 * ([m.level, m.gen, m.epoch, m.number, IntKind.u64.wrap m.size, IntKind.u64.wrap m.count] : List Int).length := by rw [eL52, List.length_append]; have := numsL_len (ns := [m.level, m.gen, m.epoch, m.number, IntKind.u64.wrap m.size, IntKind.u64.wrap m.count]) l6; omega
      try simp only [List.length_cons, List.length_nil] at lL52
      have hea := hea.mono hG52
      have hed := hed.mono hG52
      have hbb1 := hbb1.mono hG52
      have hgn := hgn.mono hG52
      have hs16 := hs16.mono hG52
      have hs17 := hs17.mono hG52
      have hs26 := hs26.mono hG52
      have hs21 := hs21.mono hG52
      have hs27 := hs27.mono hG52
      have hsl := hsl.mono hG52
      have hbb5 := hbb5.mono hG52
      have hs51 := hs51.mono hG52
      refine asg rfl .no (.u rfl) ?_
      refine .nil ?_
      refine .code ?_
      refine Wk.draw (mc := ⟨false, false⟩) [0, 1, 2, 4, 5, 7, 8, 3, 6, 9, 10] Fx.mix (by kernel_rfl) ?_
      refine mv rfl .no (.u rfl) ?_
      refine fa rfl .no Fx.fo48_6 (.u rfl) ?_
      refine ld rfl .no Fx.ag9 (.u rfl) (fun _ => (hbb5.rd (by rfl)).rd) ?_
      refine fa rfl .no Fx.fo48_7 (.u rfl) ?_
      refine ld rfl .no Fx.ag9 (.u rfl) (fun _ => (hbb5.rd (by rfl)).rd) ?_
      refine fa rfl .no Fx.fo48_8 (.u rfl) ?_
      refine kA rfl .no Fx.ar46 (.u rfl) hbb5 (meta_ba hwm) ?_; intro h61 L61 eL61 lL61 hs61
      have ly := yb_len m.min; have ly2 := yb_len m.max
      refine kc rfl Fx.go45 (Eva.cons (.u rfl) (Eva.cons (.u rfl) Eva.nil)) (Ct.frzB (Str_ok L52 h52 _ hs52 m.min (by omega))) ?_
      rintro _ G56 μ56 hG56 ⟨h56, L56, eL56, rfl, rfl, hs56⟩
      have hea := hea.mono hG56
      have hed := hed.mono hG56
      have hbb1 := hbb1.mono hG56
      have hgn := hgn.mono hG56
      have hs16 := hs16.mono hG56
      have hs17 := hs17.mono hG56
      have hs26 := hs26.mono hG56
      have hs21 := hs21.mono hG56
      have hs27 := hs27.mono hG56
      have hsl := hsl.mono hG56
      have hbb5 := hbb5.mono hG56
      have hs51 := hs51.mono hG56
      have hs52 := hs52.mono hG56
      have hs61 := hs61.mono hG56
      have l56 : L56.length ≤ L52.length + (m.min.size + 10) := by rw [eL56, List.length_append]; have := strL_len (xs := yb m.min) (by omega); omega
      refine kc rfl Fx.go45 (Eva.cons (.u rfl) (Eva.cons (.u rfl) Eva.nil)) (Ct.rowc (Str_ok L56 h56 _ hs56 m.max (by omega))) ?_
      rintro v59 G59 μ59 hG59 ⟨L59, ov59, eL59, rfl⟩
      have hea := hea.mono hG59
      have hed := hed.mono hG59
      have hbb1 := hbb1.mono hG59
      have hgn := hgn.mono hG59
      have hs16 := hs16.mono hG59
      have hs17 := hs17.mono hG59
      have hs26 := hs26.mono hG59
      have hs21 := hs21.mono hG59
      have hs27 := hs27.mono hG59
      have hsl := hsl.mono hG59
      have hbb5 := hbb5.mono hG59
      have hs51 := hs51.mono hG59
      have hs52 := hs52.mono hG59
      have hs61 := hs61.mono hG59
      have hs56 := hs56.mono hG59
      have l59 : L59.length ≤ L56.length + (m.max.size + 10) := by rw [eL59, List.length_append]; have := strL_len (xs := yb m.max) (by omega); omega
      refine apY rfl Fx.se33 Fx.zv5 (.u rfl) (.u rfl) .here hs61.sc (by (try simp only [List.length_append, List.length_cons, List.length_nil, yl_len]); omega) ?_
      intro v62 L62 ov62 eL62
      have lL62 : L62.length = L59.length + L61.length := by rw [eL62, List.length_append]
      refine asg rfl .no (.u rfl) ?_
      refine .nil ?_
      refine .blk ?_
      refine .code ?_
      refine wk_fb .here (by first | (intro b hb; cases hb; done) | simp [keys, Res.keys]) ?_; intro GfR59 hR59 hleR59 evR59 hsR59; subst evR59
      have hea := hea.mono hleR59
      have hed := hed.mono hleR59
      have hbb1 := hbb1.mono hleR59
      have hgn := hgn.mono hleR59
      have hs16 := hs16.mono hleR59
      have hs17 := hs17.mono hleR59
      have hs26 := hs26.mono hleR59
      have hs21 := hs21.mono hleR59
      have hs27 := hs27.mono hleR59
      have hsl := hsl.mono hleR59
      have hbb5 := hbb5.mono hleR59
      have hs51 := hs51.mono hleR59
      have hs52 := hs52.mono hleR59
      have hs61 := hs61.mono hleR59
      have hs56 := hs56.mono hleR59
      refine Wk.rg [0, 1] rfl rfl ?_
      refine arn (((k + 1) : Nat) : Int) rfl .no (.u rfl) (.u rfl) rfl (fun _ => by omega) (fun _ => wrap_i64 (by omega) (by omega)) ?_
      refine mv rfl .no (.u rfl) ?_
      refine .nil ?_
      refine We.lpo (k + 1, hR59, L62) ?_ ?_ ?_ ?_ ?_
      · exact (ESub.cons rfl rfl (ESub.cons rfl (by first | rfl | exact evi (by omega)) (ESub.cons rfl rfl (ESub.cons rfl rfl (ESub.cons rfl rfl ESub.nil)))))
      · exact MSub.nil
      · first | omega | (dsimp only; omega)
      · exact ((((((hGl0).trans hleb5).trans hG51).trans hG52).trans hG56).trans hG59).trans hleR59
      · refine ⟨?_, ?_, ?_⟩
        · (try dsimp only) <;> (first | omega | rfl | assumption | (simp; done))
        · (try dsimp only) <;> (rw [eL62, eL59, eL56, eL52, eL61, encM_eq, eL, flat_snoc em, List.append_assoc])
        · (try dsimp only) <;> (exact hsR59)
    · have c1k := c1
      try simp only [decide_eq_true_eq, decide_eq_false_iff_not, Int.not_lt, Int.not_le, gt_iff_lt, ge_iff_le, Bool.or_eq_true, Bool.and_eq_true, Bool.or_eq_false_iff, Bool.not_eq_true', Bool.not_eq_false', Int.toNat_natCast, bne_iff_ne, beq_iff_eq, bne_eq_false_iff_eq, beq_eq_false_iff_ne, ne_eq] at c1
      refine .exit ?_
      refine .xcode ?_
      refine .xlp ?_
      refine .xblk ?_
      refine .code ?_
      refine .seq ?_
      refine Wk.rg [0, 1, 2, 3, 4, 5, 6, 7] rfl rfl ?_
      refine mv rfl .no (.u rfl) ?_
      refine fa rfl .no Fx.fo32_6 (.u rfl) ?_
      refine ld rfl .no Fx.ag30 (.u rfl) (fun _ => (hbb1.rd (by rfl)).rd) ?_
      refine ln rfl .no Fx.sn30 (.u rfl) ?_
      refine cw rfl .no Fx.cv3_24 (.u rfl) (fun _ => wrap_u64 (by omega) (by omega)) ?_
      refine bQ [(e.drop.length : Int)] rfl Fx.se84 Fx.zv24 (Evp.cons (.u rfl) Evp.nil) rfl rfl (by decide) ?_; intro G69 h69 hG69 hs69
      have hea := hea.mono hG69
      have hed := hed.mono hG69
      have hbb1 := hbb1.mono hG69
      have hgn := hgn.mono hG69
      have hs16 := hs16.mono hG69
      have hs17 := hs17.mono hG69
      have hs26 := hs26.mono hG69
      have hs21 := hs21.mono hG69
      have hs27 := hs27.mono hG69
      have hsl := hsl.mono hG69
      refine kc rfl Fx.go44 (Eva.cons (.u rfl) (Eva.cons (.u rfl) Eva.nil)) (numbers_ok L3 h3 [(e.drop.length : Int)] h69 _ hsl hs69 (q1 (u64_len (by omega))) (by simp only [List.length_cons, List.length_nil]; omega)) ?_
      rintro _ G70 μ70 hG70 ⟨h70, L70, eL70, rfl, rfl, hs70⟩
      have lL70 : L70.length ≤ L3.length + 10 * ([(e.drop.length : Int)] : List Int).length := by rw [eL70, List.length_append]; have := numsL_len (ns := [(e.drop.length : Int)]) (q1 (u64_len (by omega))); omega
      try simp only [List.length_cons, List.length_nil] at lL70
      have hea := hea.mono hG70
      have hed := hed.mono hG70
      have hbb1 := hbb1.mono hG70
      have hgn := hgn.mono hG70
      have hs16 := hs16.mono hG70
      have hs17 := hs17.mono hG70
      have hs26 := hs26.mono hG70
      have hs21 := hs21.mono hG70
      have hs27 := hs27.mono hG70
      have hsl := hsl.mono hG70
      have hs69 := hs69.mono hG70
      refine asg rfl .no (.u rfl) ?_
      refine .nil ?_
      refine .code ?_
      refine .seq ?_
      refine .seq ?_
      refine Wk.rg [0, 1, 2, 3] rfl rfl ?_
      refine fa rfl .no Fx.fo32_6 (.u rfl) ?_
      refine ld rfl .no Fx.ag30 (.u rfl) (fun _ => (hbb1.rd (by rfl)).rd) ?_
      refine ln rfl .no Fx.sn30 (.u rfl) ?_
      refine mv rfl .no (.u rfl) ?_
      refine .nil ?_
      refine .code ?_
      refine .block ?_
      refine Wk.lop (α := Nat × Sh × List Y) (fun gh => [(3, true, gh.2.1.val gh.2.2.length), (74, true, .int .i64 (gh.1 : Int))]) (fun _ => [])
        (fun gh Gl => (gh.1 ≤ e.drop.length) ∧ (gh.2.2 = L70 ++ (e.drop.take gh.1).flatMap encG) ∧ (SlR Gl 1 encY gh.2.1 gh.2.2)) (fun gh => e.drop.length - gh.1) (0, h70, L70) [(72, true, _), (73, true, _)] []
        (ESub.cons rfl rfl (ESub.cons rfl (by first | rfl | exact evi (by omega)) (ESub.cons rfl rfl (ESub.cons rfl rfl ESub.nil))))
        MSub.nil ?_ ?_
      · refine ⟨?_, ?_, ?_⟩
        · (try dsimp only) <;> (first | omega | rfl | assumption | (simp; done))
        · (try dsimp only) <;> (simp)
        · (try dsimp only) <;> (exact hs70)
      intro gh N1 Gl1 hN1 hGl1 hF1
      obtain ⟨j, h9, L9⟩ := gh; dsimp only at hF1 hN1 ⊢
      obtain ⟨hj, eL9, hsl2⟩ := hF1
      have hea := hea.mono hGl1
      have hed := hed.mono hGl1
      have hbb1 := hbb1.mono hGl1
      have hgn := hgn.mono hGl1
      have hs16 := hs16.mono hGl1
      have hs17 := hs17.mono hGl1
      have hs26 := hs26.mono hGl1
      have hs21 := hs21.mono hGl1
      have hs27 := hs27.mono hGl1
      have hsl := hsl.mono hGl1
      have hs69 := hs69.mono hGl1
      have hs70 := hs70.mono hGl1
      have lk2 := flat_take_le (f := encG) (xs := e.drop) j
      have ld2 := gonesL hw.drop
      have lL9 : L9.length = L70.length + ((e.drop.take j).flatMap encG).length := by rw [eL9, List.length_append]
      refine .seq ?_
      refine Wk.rg [0] rfl rfl ?_
      refine cp rfl .no (.u rfl) (.u rfl) rfl ?_
      refine .nil ?_
      refine .code ?_
      refine .seq ?_
      refine .cond rfl (fun c2 => ?_) (fun c2 => ?_)
      · have c2k := c2
        try simp only [decide_eq_true_eq, decide_eq_false_iff_not, Int.not_lt, Int.not_le, gt_iff_lt, ge_iff_le, Bool.or_eq_true, Bool.and_eq_true, Bool.or_eq_false_iff, Bool.not_eq_true', Bool.not_eq_false', Int.toNat_natCast, bne_iff_ne, beq_iff_eq, bne_eq_false_iff_eq, beq_eq_false_iff_ne, ne_eq] at c2
        refine .skip ?_
        refine .code ?_
        refine .seq ?_
        refine .block ?_
        refine .seq ?_
        refine Wk.rg [0, 1, 2, 3] rfl rfl ?_
        refine ih rfl .no Fx.se30 (.u rfl) (.u rfl) (fun _ => by omega) (fun _ => by omega) (fun _ => hed.nn (k := j) (by first | omega | (simp only [List.length_cons, List.length_nil]; omega))) ?_
        obtain ⟨g, eg⟩ := getx (k := j) (xs := e.drop) (by omega)
        refine lA rfl .no Fx.ag51 (.u rfl) (fun _ => (hed.at (by omega) eg).rd) (fun _ => rfl) ?_
        refine al rfl Fx.zr51 ?_; intro b7
        refine sw rfl (.u rfl) (.u rfl) rfl Fx.sz51 .here rfl (gones1) ?_
        refine .nil ?_
        refine .code ?_
        refine wk_fz .here (by intro b hb; cases hb) ?_; intro Gfb7 hleb7 hbb7
        have hea := hea.mono hleb7
        have hed := hed.mono hleb7
        have hbb1 := hbb1.mono hleb7
        have hgn := hgn.mono hleb7
        have hs16 := hs16.mono hleb7
        have hs17 := hs17.mono hleb7
        have hs26 := hs26.mono hleb7
        have hs21 := hs21.mono hleb7
        have hs27 := hs27.mono hleb7
        have hsl := hsl.mono hleb7
        have hs69 := hs69.mono hleb7
        have hs70 := hs70.mono hleb7
        have hsl2 := hsl2.mono hleb7
        have hwg := hw.drop g (List.mem_of_getElem? eg); have w1 := hwg.level; have w2 := hwg.number; have lt := flat_take (f := encG) eg
        refine Wk.rg [0, 1, 2, 3, 4, 5, 6, 7, 8] rfl rfl ?_
        refine mv rfl .no (.u rfl) ?_
        refine fa rfl .no Fx.fo51_0 (.u rfl) ?_
        refine ld rfl .no Fx.ag5 (.u rfl) (fun _ => (hbb7.rd (by rfl)).rd) ?_
        refine cw rfl .no Fx.cv5_24 (.u rfl) (fun _ => wrap_u64 (by omega) (by omega)) ?_
        refine fa rfl .no Fx.fo51_1 (.u rfl) ?_
        refine ld rfl .no Fx.ag24 (.u rfl) (fun _ => (hbb7.rd (by rfl)).rd) ?_
        refine bQ [g.level, g.number] rfl Fx.se84 Fx.zv24 (Evp.cons (.u rfl) (Evp.cons (.u rfl) Evp.nil)) rfl rfl (by decide) ?_; intro G84 h84 hG84 hs84
        have hea := hea.mono hG84
        have hed := hed.mono hG84
        have hbb1 := hbb1.mono hG84
        have hgn := hgn.mono hG84
        have hs16 := hs16.mono hG84
        have hs17 := hs17.mono hG84
        have hs26 := hs26.mono hG84
        have hs21 := hs21.mono hG84
        have hs27 := hs27.mono hG84
        have hsl := hsl.mono hG84
        have hs69 := hs69.mono hG84
        have hs70 := hs70.mono hG84
        have hsl2 := hsl2.mono hG84
        have hbb7 := hbb7.mono hG84
        refine kc rfl Fx.go44 (Eva.cons (.u rfl) (Eva.cons (.u rfl) Eva.nil)) (numbers_ok L9 h9 [g.level, g.number] h84 _ hsl2 hs84 (q2 ⟨by omega, by omega⟩ ⟨by omega, by omega⟩) (by simp only [List.length_cons, List.length_nil]; omega)) ?_
        rintro _ G85 μ85 hG85 ⟨h85, L85, eL85, rfl, rfl, hs85⟩
        have lL85 : L85.length ≤ L9.length + 10 * ([g.level, g.number] : List Int).length := by rw [eL85, List.length_append]; have := numsL_len (ns := [g.level, g.number]) (q2 ⟨by omega, by omega⟩ ⟨by omega, by omega⟩); omega
        try simp only [List.length_cons, List.length_nil] at lL85
        have hea := hea.mono hG85
        have hed := hed.mono hG85
        have hbb1 := hbb1.mono hG85
        have hgn := hgn.mono hG85
        have hs16 := hs16.mono hG85
        have hs17 := hs17.mono hG85
        have hs26 := hs26.mono hG85
        have hs21 := hs21.mono hG85
        have hs27 := hs27.mono hG85
        have hsl := hsl.mono hG85
        have hs69 := hs69.mono hG85
        have hs70 := hs70.mono hG85
        have hsl2 := hsl2.mono hG85
        have hbb7 := hbb7.mono hG85
        have hs84 := hs84.mono hG85
        refine asg rfl .no (.u rfl) ?_
        refine .nil ?_
        refine .blk ?_
        refine .code ?_
        refine Wk.rg [0, 1] rfl rfl ?_
        refine arn (((j + 1) : Nat) : Int) rfl .no (.u rfl) (.u rfl) rfl (fun _ => by omega) (fun _ => wrap_i64 (by omega) (by omega)) ?_
        refine mv rfl .no (.u rfl) ?_
        refine .nil ?_
        refine We.lpo (j + 1, h85, L85) ?_ ?_ ?_ ?_ ?_
        · exact (ESub.cons rfl rfl (ESub.cons rfl (by first | rfl | exact evi (by omega)) (ESub.cons rfl rfl (ESub.cons rfl rfl ESub.nil))))
        · exact MSub.nil
        · first | omega | (dsimp only; omega)
        · exact (((hGl1).trans hleb7).trans hG84).trans hG85
        · refine ⟨?_, ?_, ?_⟩
          · (try dsimp only) <;> (first | omega | rfl | assumption | (simp; done))
          · (try dsimp only) <;> (rw [eL85, encG_eq, eL9, flat_snoc eg, List.append_assoc])
          · (try dsimp only) <;> (exact hs85)
      · have c2k := c2
        try simp only [decide_eq_true_eq, decide_eq_false_iff_not, Int.not_lt, Int.not_le, gt_iff_lt, ge_iff_le, Bool.or_eq_true, Bool.and_eq_true, Bool.or_eq_false_iff, Bool.not_eq_true', Bool.not_eq_false', Int.toNat_natCast, bne_iff_ne, beq_iff_eq, bne_eq_false_iff_eq, beq_eq_false_iff_ne, ne_eq] at c2
        refine .exit ?_
        refine .xcode ?_
        refine .xlp ?_
        refine .xblk ?_
        refine .code ?_
        refine .seq ?_
        refine Wk.rg [0, 1] rfl rfl ?_
        refine mv rfl .no (.u rfl) ?_
        refine asg rfl .no (.u rfl) ?_
        refine .nil ?_
        refine .code ?_
        refine .ret ?_
        refine We.fin0 Try.results17 (.tmp rfl .nil) ?_
        obtain rfl : k = e.add.length := by omega
        obtain rfl : j = e.drop.length := by omega
        rw [List.take_length] at eL eL9
        exact ⟨h9, L9, by rw [eL9, eL70, eL, eL27, eL21, eL17, List.nil_append, encE_eq], rfl, rfl, hsl2⟩

end Go.Proofs.Ytnhdaaggkdegpaa

namespace Go.Proofs.Ytnhdaaggkdegpaa
set_option linter.unusedSimpArgs false
set_option linter.unusedVariables false
open Go.Tan Go.RowKit

namespace Fx
theorem go46 : goFn Try.prog 46 = true := by kernel_rfl
theorem go70 : goFn Try.prog 70 = true := by kernel_rfl
theorem go47 : goFn Try.prog 47 = true := by kernel_rfl
end Fx
set_option maxHeartbeats 1000000 in
theorem rMeta_ok (m : Meta) (G : PM) (hwm : m.wf) (hlm : m.min.size + m.max.size ≤ 10000000000000) : Ct Try.prog 47 ([m.val] : List Value).toArray G [] (PR 5 (fun L => L = encM m)) := by
  refine Ct.of Try.func47 rfl Try.ntmps47 rfl fun w0 hs0 => ?_
  have w1 := hwm.level; have w2 := hwm.gen; have w3 := hwm.epoch; have w4 := hwm.number; have l6 := u64_6 hwm; have ly := yb_len m.min; have ly2 := yb_len m.max
  refine .seq ?_
  refine Wk.rg [0, 1] rfl rfl ?_
  refine bx rfl (.u rfl) rfl ?_; intro b1
  refine asg rfl .no (.u rfl) ?_
  refine .nil ?_
  refine .code ?_
  refine .seq ?_
  refine wk_fz .here (by intro b hb; cases hb) ?_; intro Gfb1 hleb1 hbb1
  refine Wk.rg [0, 1, 2, 3, 4, 5, 6, 7, 8, 9, 10, 11, 12, 13, 14, 15, 16, 17] rfl rfl ?_
  refine fa rfl .no Fx.fo48_0 (.u rfl) ?_
  refine ld rfl .no Fx.ag5 (.u rfl) (fun _ => (hbb1.rd (by rfl)).rd) ?_
  refine cw rfl .no Fx.cv5_24 (.u rfl) (fun _ => wrap_u64 (by omega) (by omega)) ?_
  refine fa rfl .no Fx.fo48_1 (.u rfl) ?_
  refine ld rfl .no Fx.ag24 (.u rfl) (fun _ => (hbb1.rd (by rfl)).rd) ?_
  refine fa rfl .no Fx.fo48_2 (.u rfl) ?_
  refine ld rfl .no Fx.ag24 (.u rfl) (fun _ => (hbb1.rd (by rfl)).rd) ?_
  refine fa rfl .no Fx.fo48_3 (.u rfl) ?_
  refine ld rfl .no Fx.ag24 (.u rfl) (fun _ => (hbb1.rd (by rfl)).rd) ?_
  refine fa rfl .no Fx.fo48_4 (.u rfl) ?_
  refine ld rfl .no Fx.ag3 (.u rfl) (fun _ => (hbb1.rd (by rfl)).rd) ?_
  refine cv rfl .no Fx.cv3_24 (.u rfl) ?_
  refine fa rfl .no Fx.fo48_5 (.u rfl) ?_
  refine ld rfl .no Fx.ag3 (.u rfl) (fun _ => (hbb1.rd (by rfl)).rd) ?_
  refine cv rfl .no Fx.cv3_24 (.u rfl) ?_
  refine bQ [m.level, m.gen, m.epoch, m.number, IntKind.u64.wrap m.size, IntKind.u64.wrap m.count] rfl Fx.se84 Fx.zv24 (Evp.cons (.u rfl) (Evp.cons (.u rfl) (Evp.cons (.u rfl) (Evp.cons (.u rfl) (Evp.cons (.u rfl) (Evp.cons (.u rfl) Evp.nil)))))) rfl rfl (by decide) ?_; intro G19 h19 hG19 hs19
  have hbb1 := hbb1.mono hG19
  refine kc rfl Fx.go46 (Eva.cons (.u rfl) Eva.nil) (Ct.rowc (nums_ok [m.level, m.gen, m.epoch, m.number, IntKind.u64.wrap m.size, IntKind.u64.wrap m.count] h19 _ hs19 l6 (by simp only [List.length_cons, List.length_nil]; omega))) ?_
  rintro v20 G20 μ20 hG20 ⟨L20, ov20, eL20, rfl⟩
  have hbb1 := hbb1.mono hG20
  have hs19 := hs19.mono hG20
  refine asg rfl .no (.u rfl) ?_
  refine .nil ?_
  refine .code ?_
  refine .seq ?_
  refine Wk.rg [0, 1, 2, 3, 4, 5] rfl rfl ?_
  refine mv rfl .no (.u rfl) ?_
  refine fa rfl .no Fx.fo48_6 (.u rfl) ?_
  refine ld rfl .no Fx.ag9 (.u rfl) (fun _ => (hbb1.rd (by rfl)).rd) ?_
  refine kc rfl Fx.go70 (Eva.cons (.u rfl) Eva.nil) (Ct.frzB (rrStr_ok m.min _ (by omega))) ?_
  rintro _ G24 μ24 hG24 ⟨h24, L24, eL24, rfl, rfl, hs24⟩
  have hbb1 := hbb1.mono hG24
  have hs19 := hs19.mono hG24
  have lL20 : L20.length ≤ 10 * ([m.level, m.gen, m.epoch, m.number, IntKind.u64.wrap m.size, IntKind.u64.wrap m.count] : List Int).length := by rw [eL20]; exact numsL_len (ns := [m.level, m.gen, m.epoch, m.number, IntKind.u64.wrap m.size, IntKind.u64.wrap m.count]) l6
  try simp only [List.length_cons, List.length_nil] at lL20
  have l24 : L24.length ≤ m.min.size + 10 := by rw [eL24]; have := strL_len (xs := yb m.min) (by omega); omega
  refine apY rfl Fx.se33 Fx.zv5 (.u rfl) (.u rfl) .here hs24.sc (by (try simp only [List.length_append, List.length_cons, List.length_nil, yl_len]); omega) ?_
  intro v25 L25 ov25 eL25
  have lL25 : L25.length = L20.length + L24.length := by rw [eL25, List.length_append]
  refine asg rfl .no (.u rfl) ?_
  refine .nil ?_
  refine .code ?_
  refine .seq ?_
  refine Wk.rg [0, 1, 2, 3, 4, 5] rfl rfl ?_
  refine mv rfl .no (.u rfl) ?_
  refine fa rfl .no Fx.fo48_7 (.u rfl) ?_
  refine ld rfl .no Fx.ag9 (.u rfl) (fun _ => (hbb1.rd (by rfl)).rd) ?_
  refine kc rfl Fx.go70 (Eva.cons (.u rfl) Eva.nil) (Ct.frzB (rrStr_ok m.max _ (by omega))) ?_
  rintro _ G29 μ29 hG29 ⟨h29, L29, eL29, rfl, rfl, hs29⟩
  have hbb1 := hbb1.mono hG29
  have hs19 := hs19.mono hG29
  have hs24 := hs24.mono hG29
  have l29 : L29.length ≤ m.max.size + 10 := by rw [eL29]; have := strL_len (xs := yb m.max) (by omega); omega
  refine apY rfl Fx.se33 Fx.zv5 (.u rfl) (.u rfl) .here hs29.sc (by (try simp only [List.length_append, List.length_cons, List.length_nil, yl_len]); omega) ?_
  intro v30 L30 ov30 eL30
  have lL30 : L30.length = L25.length + L29.length := by rw [eL30, List.length_append]
  refine asg rfl .no (.u rfl) ?_
  refine .nil ?_
  refine .code ?_
  refine .seq ?_
  refine Wk.rg [0, 1, 2, 3, 4] rfl rfl ?_
  refine mv rfl .no (.u rfl) ?_
  refine fa rfl .no Fx.fo48_8 (.u rfl) ?_
  refine kA rfl .no Fx.ar46 (.u rfl) hbb1 (meta_ba hwm) ?_; intro h33 L33 eL33 lL33 hs33
  refine apY rfl Fx.se33 Fx.zv5 (.u rfl) (.u rfl) .here hs33.sc (by (try simp only [List.length_append, List.length_cons, List.length_nil, yl_len]); omega) ?_
  intro v34 L34 ov34 eL34
  have lL34 : L34.length = L30.length + L33.length := by rw [eL34, List.length_append]
  refine asg rfl .no (.u rfl) ?_
  refine .nil ?_
  refine .code ?_
  refine .seq ?_
  refine Wk.rg [0, 1] rfl rfl ?_
  refine mv rfl .no (.u rfl) ?_
  refine asg rfl .no (.u rfl) ?_
  refine .nil ?_
  refine .code ?_
  refine .ret ?_
  refine We.fin Try.results47 (.tmp rfl .nil) (MSub.cons .here rfl MSub.nil) ?_
  exact ⟨L34, by have := encM_eq m []; rw [List.nil_append, List.nil_append] at this; rw [eL34, eL30, eL25, eL20, eL24, eL29, eL33, this], rfl⟩

set_option maxHeartbeats 2000000 in
theorem rEncode_ok (e : Edit) (ha hd : Sh) (G : PM) (he : EdR G e ha hd) (hla : e.add.length ≤ 1000000) (hld : e.drop.length ≤ 1000000) (hlm : (e.add.flatMap encM).length ≤ 10000000000000) : Ct Try.prog 18 ([e.val ha hd] : List Value).toArray G [] (PR 5 (fun L => L = encE e)) := by
  refine Ct.of Try.func18 rfl Try.ntmps18 rfl fun w0 hs0 => ?_
  have hea := he.add; have hed := he.drop; have hw := he.wf; have hw1 := hw.log; have hw2 := hw.next; have hw3 := hw.seq; have hw4 := hw.least; have lgn : (gensL e).length = 5 := rfl
  refine .seq ?_
  refine Wk.rg [0, 1] rfl rfl ?_
  refine bx rfl (.u rfl) rfl ?_; intro b1
  refine asg rfl .no (.u rfl) ?_
  refine .nil ?_
  refine .code ?_
  refine .seq ?_
  refine wk_fz .here (by intro b hb; cases hb) ?_; intro Gfb1 hleb1 hbb1
  have hea := hea.mono hleb1
  have hed := hed.mono hleb1
  have hgn := gens_sl hbb1
  refine Wk.rg [0, 1, 2, 3, 4, 5, 6, 7, 8, 9, 10] rfl rfl ?_
  refine fa rfl .no Fx.fo32_0 (.u rfl) ?_
  refine ld rfl .no Fx.ag24 (.u rfl) (fun _ => (hbb1.rd (by rfl)).rd) ?_
  refine fa rfl .no Fx.fo32_1 (.u rfl) ?_
  refine ld rfl .no Fx.ag24 (.u rfl) (fun _ => (hbb1.rd (by rfl)).rd) ?_
  refine fa rfl .no Fx.fo32_2 (.u rfl) ?_
  refine ld rfl .no Fx.ag24 (.u rfl) (fun _ => (hbb1.rd (by rfl)).rd) ?_
  refine fa rfl .no Fx.fo32_3 (.u rfl) ?_
  refine ld rfl .no Fx.ag24 (.u rfl) (fun _ => (hbb1.rd (by rfl)).rd) ?_
  refine bQ [e.log, e.next, e.seq, e.least] rfl Fx.se84 Fx.zv24 (Evp.cons (.u rfl) (Evp.cons (.u rfl) (Evp.cons (.u rfl) (Evp.cons (.u rfl) Evp.nil)))) rfl rfl (by decide) ?_; intro G14 h14 hG14 hs14
  have hea := hea.mono hG14
  have hed := hed.mono hG14
  have hbb1 := hbb1.mono hG14
  have hgn := hgn.mono hG14
  refine kc rfl Fx.go46 (Eva.cons (.u rfl) Eva.nil) (Ct.rowc (nums_ok [e.log, e.next, e.seq, e.least] h14 _ hs14 (q4 hw1 hw2 hw3 hw4) (by simp only [List.length_cons, List.length_nil]; omega))) ?_
  rintro v15 G15 μ15 hG15 ⟨L15, ov15, eL15, rfl⟩
  have hea := hea.mono hG15
  have hed := hed.mono hG15
  have hbb1 := hbb1.mono hG15
  have hgn := hgn.mono hG15
  have hs14 := hs14.mono hG15
  refine asg rfl .no (.u rfl) ?_
  refine .nil ?_
  refine .code ?_
  refine .seq ?_
  refine Wk.rg [0, 1, 2, 3, 4, 5] rfl rfl ?_
  refine mv rfl .no (.u rfl) ?_
  refine fa rfl .no Fx.fo32_4 (.u rfl) ?_
  refine sa0 rfl .no Fx.ar25 (.u rfl) ?_
  refine kc rfl Fx.go46 (Eva.cons (.u rfl) Eva.nil) (Ct.frzB (nums_ok (gensL e) ⟨some ⟨b1, 4, none⟩, 5⟩ _ hgn (gens_u hw) (by show 10 * 5 ≤ _; omega))) ?_
  rintro _ G19 μ19 hG19 ⟨h19, L19, eL19, rfl, rfl, hs19⟩
  have hea := hea.mono hG19
  have hed := hed.mono hG19
  have hbb1 := hbb1.mono hG19
  have hgn := hgn.mono hG19
  have hs14 := hs14.mono hG19
  have lL15 : L15.length ≤ 10 * ([e.log, e.next, e.seq, e.least] : List Int).length := by rw [eL15]; exact numsL_len (ns := [e.log, e.next, e.seq, e.least]) (q4 hw1 hw2 hw3 hw4)
  try simp only [List.length_cons, List.length_nil] at lL15
  have lL19 : L19.length ≤ 10 * ((gensL e) : List Int).length := by rw [eL19]; exact numsL_len (ns := (gensL e)) (gens_u hw)
  try simp only [List.length_cons, List.length_nil] at lL19
  refine apY rfl Fx.se33 Fx.zv5 (.u rfl) (.u rfl) .here hs19.sc (by (try simp only [List.length_append, List.length_cons, List.length_nil, yl_len]); omega) ?_
  intro v20 L20 ov20 eL20
  have lL20 : L20.length = L15.length + L19.length := by rw [eL20, List.length_append]
  refine asg rfl .no (.u rfl) ?_
  refine .nil ?_
  refine .code ?_
  refine .seq ?_
  refine Wk.rg [0, 1, 2, 3, 4, 5, 6, 7, 8] rfl rfl ?_
  refine mv rfl .no (.u rfl) ?_
  refine fa rfl .no Fx.fo32_5 (.u rfl) ?_
  refine ld rfl .no Fx.ag22 (.u rfl) (fun _ => (hbb1.rd (by rfl)).rd) ?_
  refine ln rfl .no Fx.sn22 (.u rfl) ?_
  refine cw rfl .no Fx.cv3_24 (.u rfl) (fun _ => wrap_u64 (by omega) (by omega)) ?_
  refine bQ [(e.add.length : Int)] rfl Fx.se84 Fx.zv24 (Evp.cons (.u rfl) Evp.nil) rfl rfl (by decide) ?_; intro G26 h26 hG26 hs26
  have hea := hea.mono hG26
  have hed := hed.mono hG26
  have hbb1 := hbb1.mono hG26
  have hgn := hgn.mono hG26
  have hs14 := hs14.mono hG26
  have hs19 := hs19.mono hG26
  refine kc rfl Fx.go46 (Eva.cons (.u rfl) Eva.nil) (Ct.frzB (nums_ok [(e.add.length : Int)] h26 _ hs26 (q1 (u64_len (by omega))) (by simp only [List.length_cons, List.length_nil]; omega))) ?_
  rintro _ G27 μ27 hG27 ⟨h27, L27, eL27, rfl, rfl, hs27⟩
  have hea := hea.mono hG27
  have hed := hed.mono hG27
  have hbb1 := hbb1.mono hG27
  have hgn := hgn.mono hG27
  have hs14 := hs14.mono hG27
  have hs19 := hs19.mono hG27
  have hs26 := hs26.mono hG27
  have lL27 : L27.length ≤ 10 * ([(e.add.length : Int)] : List Int).length := by rw [eL27]; exact numsL_len (ns := [(e.add.length : Int)]) (q1 (u64_len (by omega)))
  try simp only [List.length_cons, List.length_nil] at lL27
  refine apY rfl Fx.se33 Fx.zv5 (.u rfl) (.u rfl) .here hs27.sc (by (try simp only [List.length_append, List.length_cons, List.length_nil, yl_len]); omega) ?_
  intro v28 L28 ov28 eL28
  have lL28 : L28.length = L20.length + L27.length := by rw [eL28, List.length_append]
  refine asg rfl .no (.u rfl) ?_
  refine .nil ?_
  refine .code ?_
  refine .seq ?_
  refine .seq ?_
  refine Wk.rg [0] rfl rfl ?_
  refine asg rfl .no (.u rfl) ?_
  refine .nil ?_
  refine .code ?_
  refine .block ?_
  refine Wk.lop (α := Nat × Value × List Y) (fun gh => [(3, true, gh.2.1), (4, true, .int .i64 (gh.1 : Int))]) (fun gh => [rB gh.2.1 5 gh.2.2])
    (fun gh Gl => (gh.1 ≤ e.add.length) ∧ (gh.2.2 = L28 ++ (e.add.take gh.1).flatMap encM)) (fun gh => e.add.length - gh.1) (0, v28, L28) [(1, true, _)] []
    (ESub.cons rfl rfl (ESub.cons rfl (by first | rfl | exact evi (by omega)) (ESub.cons rfl rfl ESub.nil)))
    (MSub.cons .here rfl MSub.nil) ?_ ?_
  · refine ⟨?_, ?_⟩
    · (try dsimp only) <;> (first | omega | rfl | assumption | (simp; done))
    · (try dsimp only) <;> (simp)
  intro gh N0 Gl0 hN0 hGl0 hF0
  obtain ⟨k, v3, L3⟩ := gh; dsimp only at hF0 hN0 ⊢
  obtain ⟨hk, eL⟩ := hF0
  have hea := hea.mono hGl0
  have hed := hed.mono hGl0
  have hbb1 := hbb1.mono hGl0
  have hgn := hgn.mono hGl0
  have hs14 := hs14.mono hGl0
  have hs19 := hs19.mono hGl0
  have hs26 := hs26.mono hGl0
  have hs27 := hs27.mono hGl0
  have lk := flat_take_le (f := encM) (xs := e.add) k
  have lL : L3.length = L28.length + ((e.add.take k).flatMap encM).length := by rw [eL, List.length_append]
  refine .seq ?_
  refine .seq ?_
  refine Wk.rg [0, 1, 2, 3, 4] rfl rfl ?_
  refine mv rfl .no (.u rfl) ?_
  refine fa rfl .no Fx.fo32_5 (.u rfl) ?_
  refine ld rfl .no Fx.ag22 (.u rfl) (fun _ => (hbb1.rd (by rfl)).rd) ?_
  refine ln rfl .no Fx.sn22 (.u rfl) ?_
  refine cp rfl .no (.u rfl) (.u rfl) rfl ?_
  refine .nil ?_
  refine .code ?_
  refine .cond rfl (fun c1 => ?_) (fun c1 => ?_)
  · have c1k := c1
    try simp only [decide_eq_true_eq, decide_eq_false_iff_not, Int.not_lt, Int.not_le, gt_iff_lt, ge_iff_le, Bool.or_eq_true, Bool.and_eq_true, Bool.or_eq_false_iff, Bool.not_eq_true', Bool.not_eq_false', Int.toNat_natCast, bne_iff_ne, beq_iff_eq, bne_eq_false_iff_eq, beq_eq_false_iff_ne, ne_eq] at c1
    refine .skip ?_
    refine .code ?_
    refine .seq ?_
    refine .block ?_
    refine Wk.rg [0, 1, 2, 3, 4, 5, 6, 7, 8] rfl rfl ?_
    refine mv rfl .no (.u rfl) ?_
    refine fa rfl .no Fx.fo32_5 (.u rfl) ?_
    refine ld rfl .no Fx.ag22 (.u rfl) (fun _ => (hbb1.rd (by rfl)).rd) ?_
    refine mv rfl .no (.u rfl) ?_
    refine ih rfl .no Fx.se22 (.u rfl) (.u rfl) (fun _ => by omega) (fun _ => by omega) (fun _ => hea.nn (k := k) (by first | omega | (simp only [List.length_cons, List.length_nil]; omega))) ?_
    obtain ⟨m, em⟩ := getx (k := k) (xs := e.add) (by omega)
    refine lA rfl .no Fx.ag48 (.u rfl) (fun _ => (hea.at (by omega) em).rd) (fun _ => Meta.len _) ?_
    have hwm := hw.add m (List.mem_of_getElem? em); have lt := flat_take (f := encM) em; have lg := encM_ge m
    refine kc rfl Fx.go47 (Eva.cons (.u rfl) Eva.nil) (Ct.frzB (rMeta_ok m _ hwm (by omega))) ?_
    rintro _ G42 μ42 hG42 ⟨h42, L42, eL42, rfl, rfl, hs42⟩
    have hea := hea.mono hG42
    have hed := hed.mono hG42
    have hbb1 := hbb1.mono hG42
    have hgn := hgn.mono hG42
    have hs14 := hs14.mono hG42
    have hs19 := hs19.mono hG42
    have hs26 := hs26.mono hG42
    have hs27 := hs27.mono hG42
    have l42 : L42.length = (encM m).length := by rw [eL42]
    refine apY rfl Fx.se33 Fx.zv5 (.u rfl) (.u rfl) .here hs42.sc (by (try simp only [List.length_append, List.length_cons, List.length_nil, yl_len]); omega) ?_
    intro v43 L43 ov43 eL43
    have lL43 : L43.length = L3.length + L42.length := by rw [eL43, List.length_append]
    refine asg rfl .no (.u rfl) ?_
    refine .nil ?_
    refine .blk ?_
    refine .code ?_
    refine Wk.rg [0, 1, 2] rfl rfl ?_
    refine mv rfl .no (.u rfl) ?_
    refine arn (((k + 1) : Nat) : Int) rfl .no (.u rfl) (.u rfl) rfl (fun _ => by omega) (fun _ => wrap_i64 (by omega) (by omega)) ?_
    refine asg rfl .no (.u rfl) ?_
    refine .nil ?_
    refine We.lpo (k + 1, v43, L43) ?_ ?_ ?_ ?_ ?_
    · exact (ESub.cons rfl rfl (ESub.cons rfl (by first | rfl | exact evi (by omega)) (ESub.cons rfl rfl ESub.nil)))
    · exact (MSub.cons .here rfl MSub.nil)
    · first | omega | (dsimp only; omega)
    · exact (hGl0).trans hG42
    · refine ⟨?_, ?_⟩
      · (try dsimp only) <;> (first | omega | rfl | assumption | (simp; done))
      · (try dsimp only) <;> (rw [eL43, eL42, eL, flat_snoc em, List.append_assoc])
  · have c1k := c1
    try simp only [decide_eq_true_eq, decide_eq_false_iff_not, Int.not_lt, Int.not_le, gt_iff_lt, ge_iff_le, Bool.or_eq_true, Bool.and_eq_true, Bool.or_eq_false_iff, Bool.not_eq_true', Bool.not_eq_false', Int.toNat_natCast, bne_iff_ne, beq_iff_eq, bne_eq_false_iff_eq, beq_eq_false_iff_ne, ne_eq] at c1
    refine .exit ?_
    refine .xcode ?_
    refine .xlp ?_
    refine .xblk ?_
    refine .code ?_
    refine .seq ?_
    refine Wk.rg [0, 1, 2, 3, 4, 5, 6, 7, 8] rfl rfl ?_
    refine mv rfl .no (.u rfl) ?_
    refine fa rfl .no Fx.fo32_6 (.u rfl) ?_
    refine ld rfl .no Fx.ag30 (.u rfl) (fun _ => (hbb1.rd (by rfl)).rd) ?_
    refine ln rfl .no Fx.sn30 (.u rfl) ?_
    refine cw rfl .no Fx.cv3_24 (.u rfl) (fun _ => wrap_u64 (by omega) (by omega)) ?_
    refine bQ [(e.drop.length : Int)] rfl Fx.se84 Fx.zv24 (Evp.cons (.u rfl) Evp.nil) rfl rfl (by decide) ?_; intro G49 h49 hG49 hs49
    have hea := hea.mono hG49
    have hed := hed.mono hG49
    have hbb1 := hbb1.mono hG49
    have hgn := hgn.mono hG49
    have hs14 := hs14.mono hG49
    have hs19 := hs19.mono hG49
    have hs26 := hs26.mono hG49
    have hs27 := hs27.mono hG49
    refine kc rfl Fx.go46 (Eva.cons (.u rfl) Eva.nil) (Ct.frzB (nums_ok [(e.drop.length : Int)] h49 _ hs49 (q1 (u64_len (by omega))) (by simp only [List.length_cons, List.length_nil]; omega))) ?_
    rintro _ G50 μ50 hG50 ⟨h50, L50, eL50, rfl, rfl, hs50⟩
    have hea := hea.mono hG50
    have hed := hed.mono hG50
    have hbb1 := hbb1.mono hG50
    have hgn := hgn.mono hG50
    have hs14 := hs14.mono hG50
    have hs19 := hs19.mono hG50
    have hs26 := hs26.mono hG50
    have hs27 := hs27.mono hG50
    have hs49 := hs49.mono hG50
    have lL50 : L50.length ≤ 10 * ([(e.drop.length : Int)] : List Int).length := by rw [eL50]; exact numsL_len (ns := [(e.drop.length : Int)]) (q1 (u64_len (by omega)))
    try simp only [List.length_cons, List.length_nil] at lL50
    refine apY rfl Fx.se33 Fx.zv5 (.u rfl) (.u rfl) .here hs50.sc (by (try simp only [List.length_append, List.length_cons, List.length_nil, yl_len]); omega) ?_
    intro v51 L51 ov51 eL51
    have lL51 : L51.length = L3.length + L50.length := by rw [eL51, List.length_append]
    refine asg rfl .no (.u rfl) ?_
    refine .nil ?_
    refine .code ?_
    refine .seq ?_
    refine .seq ?_
    refine Wk.rg [0] rfl rfl ?_
    refine asg rfl .no (.u rfl) ?_
    refine .nil ?_
    refine .code ?_
    refine .block ?_
    refine Wk.lop (α := Nat × Value × List Y) (fun gh => [(3, true, gh.2.1), (5, true, .int .i64 (gh.1 : Int))]) (fun gh => [rB gh.2.1 5 gh.2.2])
      (fun gh Gl => (gh.1 ≤ e.drop.length) ∧ (gh.2.2 = L51 ++ (e.drop.take gh.1).flatMap encG)) (fun gh => e.drop.length - gh.1) (0, v51, L51) [(1, true, _)] []
      (ESub.cons rfl rfl (ESub.cons rfl (by first | rfl | exact evi (by omega)) (ESub.cons rfl rfl ESub.nil)))
      (MSub.cons .here rfl MSub.nil) ?_ ?_
    · refine ⟨?_, ?_⟩
      · (try dsimp only) <;> (first | omega | rfl | assumption | (simp; done))
      · (try dsimp only) <;> (simp)
    intro gh N1 Gl1 hN1 hGl1 hF1
    obtain ⟨j, v9, L9⟩ := gh; dsimp only at hF1 hN1 ⊢
    obtain ⟨hj, eL9⟩ := hF1
    have hea := hea.mono hGl1
    have hed := hed.mono hGl1
    have hbb1 := hbb1.mono hGl1
    have hgn := hgn.mono hGl1
    have hs14 := hs14.mono hGl1
    have hs19 := hs19.mono hGl1
    have hs26 := hs26.mono hGl1
    have hs27 := hs27.mono hGl1
    have hs49 := hs49.mono hGl1
    have hs50 := hs50.mono hGl1
    have lk2 := flat_take_le (f := encG) (xs := e.drop) j
    have ld2 := gonesL hw.drop
    have lL9 : L9.length = L51.length + ((e.drop.take j).flatMap encG).length := by rw [eL9, List.length_append]
    refine .seq ?_
    refine .seq ?_
    refine Wk.rg [0, 1, 2, 3, 4] rfl rfl ?_
    refine mv rfl .no (.u rfl) ?_
    refine fa rfl .no Fx.fo32_6 (.u rfl) ?_
    refine ld rfl .no Fx.ag30 (.u rfl) (fun _ => (hbb1.rd (by rfl)).rd) ?_
    refine ln rfl .no Fx.sn30 (.u rfl) ?_
    refine cp rfl .no (.u rfl) (.u rfl) rfl ?_
    refine .nil ?_
    refine .code ?_
    refine .cond rfl (fun c2 => ?_) (fun c2 => ?_)
    · have c2k := c2
      try simp only [decide_eq_true_eq, decide_eq_false_iff_not, Int.not_lt, Int.not_le, gt_iff_lt, ge_iff_le, Bool.or_eq_true, Bool.and_eq_true, Bool.or_eq_false_iff, Bool.not_eq_true', Bool.not_eq_false', Int.toNat_natCast, bne_iff_ne, beq_iff_eq, bne_eq_false_iff_eq, beq_eq_false_iff_ne, ne_eq] at c2
      refine .skip ?_
      refine .code ?_
      refine .seq ?_
      refine .block ?_
      refine Wk.draw (mc := ⟨false, false⟩) [0, 1, 2, 3, 4, 5, 6, 7, 8, 9, 10, 11, 12, 13, 14, 15, 16, 17] Fx.mix (by kernel_rfl) ?_
      obtain ⟨g, eg⟩ := getx (k := j) (xs := e.drop) (by omega)
      have hwg := hw.drop g (List.mem_of_getElem? eg); have w1 := hwg.level; have w2 := hwg.number; have lt := flat_take (f := encG) eg
      refine mv rfl .no (.u rfl) ?_
      refine fa rfl .no Fx.fo32_6 (.u rfl) ?_
      refine ld rfl .no Fx.ag30 (.u rfl) (fun _ => (hbb1.rd (by rfl)).rd) ?_
      refine mv rfl .no (.u rfl) ?_
      refine ih rfl .no Fx.se30 (.u rfl) (.u rfl) (fun _ => by omega) (fun _ => by omega) (fun _ => hed.nn (k := j) (by first | omega | (simp only [List.length_cons, List.length_nil]; omega))) ?_
      refine fa rfl .no Fx.fo51_0 (.u rfl) ?_
      refine ld rfl .no Fx.ag5 (.u rfl) (fun _ => (hed.fat (by omega) eg 0 rfl).rd) ?_
      refine cw rfl .no Fx.cv5_24 (.u rfl) (fun _ => wrap_u64 (by omega) (by omega)) ?_
      refine fa rfl .no Fx.fo32_6 (.u rfl) ?_
      refine ld rfl .no Fx.ag30 (.u rfl) (fun _ => (hbb1.rd (by rfl)).rd) ?_
      refine mv rfl .no (.u rfl) ?_
      refine ih rfl .no Fx.se30 (.u rfl) (.u rfl) (fun _ => by omega) (fun _ => by omega) (fun _ => hed.nn (k := j) (by first | omega | (simp only [List.length_cons, List.length_nil]; omega))) ?_
      refine fa rfl .no Fx.fo51_1 (.u rfl) ?_
      refine ld rfl .no Fx.ag24 (.u rfl) (fun _ => (hed.fat (by omega) eg 1 rfl).rd) ?_
      refine bQ [g.level, g.number] rfl Fx.se84 Fx.zv24 (Evp.cons (.u rfl) (Evp.cons (.u rfl) Evp.nil)) rfl rfl (by decide) ?_; intro G73 h73 hG73 hs73
      have hea := hea.mono hG73
      have hed := hed.mono hG73
      have hbb1 := hbb1.mono hG73
      have hgn := hgn.mono hG73
      have hs14 := hs14.mono hG73
      have hs19 := hs19.mono hG73
      have hs26 := hs26.mono hG73
      have hs27 := hs27.mono hG73
      have hs49 := hs49.mono hG73
      have hs50 := hs50.mono hG73
      refine kc rfl Fx.go46 (Eva.cons (.u rfl) Eva.nil) (Ct.frzB (nums_ok [g.level, g.number] h73 _ hs73 (q2 ⟨by omega, by omega⟩ ⟨by omega, by omega⟩) (by simp only [List.length_cons, List.length_nil]; omega))) ?_
      rintro _ G74 μ74 hG74 ⟨h74, L74, eL74, rfl, rfl, hs74⟩
      have hea := hea.mono hG74
      have hed := hed.mono hG74
      have hbb1 := hbb1.mono hG74
      have hgn := hgn.mono hG74
      have hs14 := hs14.mono hG74
      have hs19 := hs19.mono hG74
      have hs26 := hs26.mono hG74
      have hs27 := hs27.mono hG74
      have hs49 := hs49.mono hG74
      have hs50 := hs50.mono hG74
      have hs73 := hs73.mono hG74
      have lL74 : L74.length ≤ 10 * ([g.level, g.number] : List Int).length := by rw [eL74]; exact numsL_len (ns := [g.level, g.number]) (q2 ⟨by omega, by omega⟩ ⟨by omega, by omega⟩)
      try simp only [List.length_cons, List.length_nil] at lL74
      refine apY rfl Fx.se33 Fx.zv5 (.u rfl) (.u rfl) .here hs74.sc (by (try simp only [List.length_append, List.length_cons, List.length_nil, yl_len]); omega) ?_
      intro v75 L75 ov75 eL75
      have lL75 : L75.length = L9.length + L74.length := by rw [eL75, List.length_append]
      refine asg rfl .no (.u rfl) ?_
      refine .nil ?_
      refine .blk ?_
      refine .code ?_
      refine Wk.rg [0, 1, 2] rfl rfl ?_
      refine mv rfl .no (.u rfl) ?_
      refine arn (((j + 1) : Nat) : Int) rfl .no (.u rfl) (.u rfl) rfl (fun _ => by omega) (fun _ => wrap_i64 (by omega) (by omega)) ?_
      refine asg rfl .no (.u rfl) ?_
      refine .nil ?_
      refine We.lpo (j + 1, v75, L75) ?_ ?_ ?_ ?_ ?_
      · exact (ESub.cons rfl rfl (ESub.cons rfl (by first | rfl | exact evi (by omega)) (ESub.cons rfl rfl ESub.nil)))
      · exact (MSub.cons .here rfl MSub.nil)
      · first | omega | (dsimp only; omega)
      · exact ((hGl1).trans hG73).trans hG74
      · refine ⟨?_, ?_⟩
        · (try dsimp only) <;> (first | omega | rfl | assumption | (simp; done))
        · (try dsimp only) <;> (rw [eL75, eL74, encG_eq, eL9, flat_snoc eg, List.append_assoc])
    · have c2k := c2
      try simp only [decide_eq_true_eq, decide_eq_false_iff_not, Int.not_lt, Int.not_le, gt_iff_lt, ge_iff_le, Bool.or_eq_true, Bool.and_eq_true, Bool.or_eq_false_iff, Bool.not_eq_true', Bool.not_eq_false', Int.toNat_natCast, bne_iff_ne, beq_iff_eq, bne_eq_false_iff_eq, beq_eq_false_iff_ne, ne_eq] at c2
      refine .exit ?_
      refine .xcode ?_
      refine .xlp ?_
      refine .xblk ?_
      refine .code ?_
      refine .seq ?_
      refine Wk.rg [0, 1] rfl rfl ?_
      refine mv rfl .no (.u rfl) ?_
      refine asg rfl .no (.u rfl) ?_
      refine .nil ?_
      refine .code ?_
      refine .ret ?_
      refine We.fin Try.results18 (.tmp rfl .nil) (MSub.cons .here rfl MSub.nil) ?_
      obtain rfl : k = e.add.length := by omega
      obtain rfl : j = e.drop.length := by omega
      rw [List.take_length] at eL eL9
      exact ⟨L9, by rw [eL9, eL51, eL50, eL, eL28, eL27, eL20, eL19, eL15, encE_eq], rfl⟩

end Go.Proofs.Ytnhdaaggkdegpaa

namespace Go.Proofs.Ytnhdaaggkdegpaa
set_option linter.unusedSimpArgs false
set_option linter.unusedVariables false
open Go.Tan Go.RowKit

namespace Fx
theorem go42 : goFn Try.prog 42 = true := by kernel_rfl
theorem go65 : goFn Try.prog 65 = true := by kernel_rfl
theorem go66 : goFn Try.prog 66 = true := by kernel_rfl
theorem go67 : goFn Try.prog 67 = true := by kernel_rfl
end Fx
theorem small_ok (B : List Y) (I : Nat) (e : Int) (s : Sh) (b : Nat) (G : PM) (hs : SlR G 1 encY s B) (hI : I ≤ B.length) (hl : B.length ≤ 100000000000000) : Ct Try.prog 42 ([.pointer (some ⟨b, 0, none⟩)] : List Value).toArray G [.blk b (cl [Sh.val s B.length, .int .i64 (I : Int), .int .i64 e] 78)] (fun G' μ' u => ∃ n I' e' ok, rdNum ⟨B.drop I, e⟩ = (n, ⟨B.drop I', e'⟩) ∧ I' ≤ B.length ∧ ok = decide ((n : Int) < 256) ∧ μ' = [.blk b (cl [Sh.val s B.length, .int .i64 (I' : Int), .int .i64 e'] 78)] ∧ u = .tuple #[.int .u8 (IntKind.u8.wrap (n : Int)), .bool ok]) := by
  refine Ct.of Try.func42 rfl Try.ntmps42 rfl fun w0 hs0 => ?_
  refine .seq ?_
  refine Wk.rg [0, 1] rfl rfl ?_
  refine asg rfl .no (.u rfl) ?_
  refine asg rfl .no (.u rfl) ?_
  refine .nil ?_
  refine .code ?_
  refine .seq ?_
  refine Wk.rg [0, 1, 2] rfl rfl ?_
  refine mv rfl .no (.u rfl) ?_
  refine ka rfl (.inr rfl) Fx.go40 (Eva.cons (.u rfl) Eva.nil) (mtk1 .here) (qNum_ok B I e s b _ hs hI hl) ?_
  rintro _ G6 μ6 hG6 ⟨n6, I', e', hN, hI', rfl, rfl⟩
  have hs := hs.mono hG6
  refine asg rfl .no (.u rfl) ?_
  refine .nil ?_
  refine .code ?_
  refine .seq ?_
  refine Wk.rg [0, 1, 2, 3, 4, 5] rfl rfl ?_
  refine mv rfl .no (.u rfl) ?_
  refine cv rfl .no Fx.cv24_5 (.u rfl) ?_
  refine mv rfl .no (.u rfl) ?_
  refine cp rfl .no (.u rfl) (.u rfl) rfl ?_
  refine asg rfl .no (.u rfl) ?_
  refine asg rfl .no (.u rfl) ?_
  refine .nil ?_
  refine .code ?_
  refine .ret ?_
  refine We.fin Try.results42 (.tmp rfl (.tmp rfl .nil)) (MSub.cons .here rfl MSub.nil) ?_
  exact ⟨n6, I', e', _, hN, hI', rfl, rfl, rfl⟩

theorem count_ok (B : List Y) (I : Nat) (e : Int) (s : Sh) (b : Nat) (G : PM) (hs : SlR G 1 encY s B) (hI : I ≤ B.length) (hl : B.length ≤ 100000000000000) : Ct Try.prog 65 ([.pointer (some ⟨b, 0, none⟩)] : List Value).toArray G [.blk b (cl [Sh.val s B.length, .int .i64 (I : Int), .int .i64 e] 78)] (fun G' μ' u => ∃ n I' e' ok, rdNum ⟨B.drop I, e⟩ = (n, ⟨B.drop I', e'⟩) ∧ I' ≤ B.length ∧ ok = decide ((n : Int) < 9223372036854775808) ∧ μ' = [.blk b (cl [Sh.val s B.length, .int .i64 (I' : Int), .int .i64 e'] 78)] ∧ u = .tuple #[.int .i64 (IntKind.i64.wrap (n : Int)), .bool ok]) := by
  refine Ct.of Try.func65 rfl Try.ntmps65 rfl fun w0 hs0 => ?_
  refine .seq ?_
  refine Wk.rg [0, 1] rfl rfl ?_
  refine asg rfl .no (.u rfl) ?_
  refine asg rfl .no (.u rfl) ?_
  refine .nil ?_
  refine .code ?_
  refine .seq ?_
  refine Wk.rg [0, 1, 2] rfl rfl ?_
  refine mv rfl .no (.u rfl) ?_
  refine ka rfl (.inr rfl) Fx.go40 (Eva.cons (.u rfl) Eva.nil) (mtk1 .here) (qNum_ok B I e s b _ hs hI hl) ?_
  rintro _ G6 μ6 hG6 ⟨n6, I', e', hN, hI', rfl, rfl⟩
  have hs := hs.mono hG6
  refine asg rfl .no (.u rfl) ?_
  refine .nil ?_
  refine .code ?_
  refine .seq ?_
  refine Wk.rg [0, 1, 2, 3, 4, 5] rfl rfl ?_
  refine mv rfl .no (.u rfl) ?_
  refine cv rfl .no Fx.cv24_3 (.u rfl) ?_
  refine mv rfl .no (.u rfl) ?_
  refine cp rfl .no (.u rfl) (.u rfl) rfl ?_
  refine asg rfl .no (.u rfl) ?_
  refine asg rfl .no (.u rfl) ?_
  refine .nil ?_
  refine .code ?_
  refine .ret ?_
  refine We.fin Try.results65 (.tmp rfl (.tmp rfl .nil)) (MSub.cons .here rfl MSub.nil) ?_
  exact ⟨n6, I', e', _, hN, hI', rfl, rfl, rfl⟩

set_option maxHeartbeats 1000000 in
theorem rmeta_ok (B : List Y) (I : Nat) (e : Int) (s : Sh) (b : Nat) (G : PM) (hs : SlR G 1 encY s B) (hI : I ≤ B.length) (hl : B.length ≤ 100000000000000) : Ct Try.prog 41 ([.pointer (some ⟨b, 0, none⟩)] : List Value).toArray G [.blk b (cl [Sh.val s B.length, .int .i64 (I : Int), .int .i64 e] 78)] (fun G' μ' u => ∃ m I' e' bad', MetaT ⟨B.drop I, e⟩ ⟨B.drop I', e'⟩ false bad' m ∧ I' ≤ B.length ∧ μ' = [.blk b (cl [Sh.val s B.length, .int .i64 (I' : Int), .int .i64 e'] 78)] ∧ u = .tuple #[Meta.val m, .bool (!bad')]) := by
  refine Ct.of Try.func41 rfl Try.ntmps41 rfl fun w0 hs0 => ?_
  refine .seq ?_
  refine Wk.rg [0, 1] rfl rfl ?_
  refine al rfl Fx.zr48 ?_; intro b2
  refine asg rfl .no (.u rfl) ?_
  refine .nil ?_
  refine .code ?_
  refine .seq ?_
  refine Wk.rg [0] rfl rfl ?_
  refine al rfl Fx.zr48 ?_; intro b4
  refine .nil ?_
  refine .code ?_
  refine .seq ?_
  refine Wk.rg [0, 1, 2, 3, 4, 5, 6] rfl rfl ?_
  refine mv rfl .no (.u rfl) ?_
  refine ka rfl (.inr rfl) Fx.go42 (Eva.cons (.u rfl) Eva.nil) (mtk1 (.there (.there .here))) (small_ok B I e s b _ hs hI hl) ?_
  rintro _ G14 μ14 hG14 ⟨n14, I14, e14, k14, hN14, hI14, ek14, rfl, rfl⟩
  have nL14 := rdnum_lt hN14
  have hs := hs.mono hG14
  refine mv rfl .no (.u rfl) ?_
  refine ex rfl .no (.u rfl) rfl ?_
  refine ex rfl .no (.u rfl) rfl ?_
  refine asg rfl .no (.u rfl) ?_
  refine asg rfl .no (.u rfl) ?_
  refine .nil ?_
  refine .code ?_
  refine .seq ?_
  refine Wk.rg [0, 1, 2] rfl rfl ?_
  refine mv rfl .no (.u rfl) ?_
  refine fz rfl .no Fx.fo48_0 (.u rfl) ?_
  refine s1 rfl (.u rfl) (.u rfl) rfl Fx.sz5 (.there .here) (show 0 < 40 by decide) (show _ = ([.int .u8 (IntKind.u8.wrap (n14 : Int)), .int .u64 0, .int .u64 0, .int .u64 0, .int .i64 0, .int .i64 0, .string ByteArray.empty, .string ByteArray.empty] ++ ba 32 (fun _ => 0#8)) from rfl) ?_
  refine .nil ?_
  refine .code ?_
  refine .seq ?_
  refine Wk.rg [0, 1, 2, 3] rfl rfl ?_
  refine mv rfl .no (.u rfl) ?_
  refine ka rfl (.inr rfl) Fx.go40 (Eva.cons (.u rfl) Eva.nil) (mtk1 (.there .here)) (qNum_ok B I14 e14 s b _ hs hI14 hl) ?_
  rintro _ G20 μ20 hG20 ⟨n20, I20, e20, hN20, hI20, rfl, rfl⟩
  have nL20 := rdnum_lt hN20
  have hs := hs.mono hG20
  refine fz rfl .no Fx.fo48_1 (.u rfl) ?_
  refine s1 rfl (.u rfl) (.u rfl) rfl Fx.sz24 (.there .here) (show 1 < 40 by decide) (show _ = ([.int .u8 (IntKind.u8.wrap (n14 : Int)), .int .u64 (n20 : Int), .int .u64 0, .int .u64 0, .int .i64 0, .int .i64 0, .string ByteArray.empty, .string ByteArray.empty] ++ ba 32 (fun _ => 0#8)) from rfl) ?_
  refine .nil ?_
  refine .code ?_
  refine .seq ?_
  refine Wk.rg [0, 1, 2, 3] rfl rfl ?_
  refine mv rfl .no (.u rfl) ?_
  refine ka rfl (.inr rfl) Fx.go40 (Eva.cons (.u rfl) Eva.nil) (mtk1 (.there .here)) (qNum_ok B I20 e20 s b _ hs hI20 hl) ?_
  rintro _ G23 μ23 hG23 ⟨n23, I23, e23, hN23, hI23, rfl, rfl⟩
  have nL23 := rdnum_lt hN23
  have hs := hs.mono hG23
  refine fz rfl .no Fx.fo48_2 (.u rfl) ?_
  refine s1 rfl (.u rfl) (.u rfl) rfl Fx.sz24 (.there .here) (show 2 < 40 by decide) (show _ = ([.int .u8 (IntKind.u8.wrap (n14 : Int)), .int .u64 (n20 : Int), .int .u64 (n23 : Int), .int .u64 0, .int .i64 0, .int .i64 0, .string ByteArray.empty, .string ByteArray.empty] ++ ba 32 (fun _ => 0#8)) from rfl) ?_
  refine .nil ?_
  refine .code ?_
  refine .seq ?_
  refine Wk.rg [0, 1, 2, 3] rfl rfl ?_
  refine mv rfl .no (.u rfl) ?_
  refine ka rfl (.inr rfl) Fx.go40 (Eva.cons (.u rfl) Eva.nil) (mtk1 (.there .here)) (qNum_ok B I23 e23 s b _ hs hI23 hl) ?_
  rintro _ G26 μ26 hG26 ⟨n26, I26, e26, hN26, hI26, rfl, rfl⟩
  have nL26 := rdnum_lt hN26
  have hs := hs.mono hG26
  refine fz rfl .no Fx.fo48_3 (.u rfl) ?_
  refine s1 rfl (.u rfl) (.u rfl) rfl Fx.sz24 (.there .here) (show 3 < 40 by decide) (show _ = ([.int .u8 (IntKind.u8.wrap (n14 : Int)), .int .u64 (n20 : Int), .int .u64 (n23 : Int), .int .u64 (n26 : Int), .int .i64 0, .int .i64 0, .string ByteArray.empty, .string ByteArray.empty] ++ ba 32 (fun _ => 0#8)) from rfl) ?_
  refine .nil ?_
  refine .code ?_
  refine .seq ?_
  refine Wk.rg [0, 1, 2, 3, 4, 5, 6] rfl rfl ?_
  refine mv rfl .no (.u rfl) ?_
  refine ka rfl (.inr rfl) Fx.go65 (Eva.cons (.u rfl) Eva.nil) (mtk1 (.there .here)) (count_ok B I26 e26 s b _ hs hI26 hl) ?_
  rintro _ G30 μ30 hG30 ⟨n30, I30, e30, k30, hN30, hI30, ek30, rfl, rfl⟩
  have nL30 := rdnum_lt hN30
  have hs := hs.mono hG30
  refine mv rfl .no (.u rfl) ?_
  refine ex rfl .no (.u rfl) rfl ?_
  refine ex rfl .no (.u rfl) rfl ?_
  refine asg rfl .no (.u rfl) ?_
  refine asg rfl .no (.u rfl) ?_
  refine .nil ?_
  refine .code ?_
  refine .seq ?_
  refine Wk.rg [0, 1, 2] rfl rfl ?_
  refine mv rfl .no (.u rfl) ?_
  refine fz rfl .no Fx.fo48_4 (.u rfl) ?_
  refine s1 rfl (.u rfl) (.u rfl) rfl Fx.sz3 (.there .here) (show 4 < 40 by decide) (show _ = ([.int .u8 (IntKind.u8.wrap (n14 : Int)), .int .u64 (n20 : Int), .int .u64 (n23 : Int), .int .u64 (n26 : Int), .int .i64 (IntKind.i64.wrap (n30 : Int)), .int .i64 0, .string ByteArray.empty, .string ByteArray.empty] ++ ba 32 (fun _ => 0#8)) from rfl) ?_
  refine .nil ?_
  refine .code ?_
  refine .seq ?_
  refine Wk.rg [0, 1, 2, 3, 4, 5, 6] rfl rfl ?_
  refine mv rfl .no (.u rfl) ?_
  refine ka rfl (.inr rfl) Fx.go65 (Eva.cons (.u rfl) Eva.nil) (mtk1 (.there .here)) (count_ok B I30 e30 s b _ hs hI30 hl) ?_
  rintro _ G37 μ37 hG37 ⟨n37, I37, e37, k37, hN37, hI37, ek37, rfl, rfl⟩
  have nL37 := rdnum_lt hN37
  have hs := hs.mono hG37
  refine mv rfl .no (.u rfl) ?_
  refine ex rfl .no (.u rfl) rfl ?_
  refine ex rfl .no (.u rfl) rfl ?_
  refine asg rfl .no (.u rfl) ?_
  refine asg rfl .no (.u rfl) ?_
  refine .nil ?_
  refine .code ?_
  refine .seq ?_
  refine Wk.rg [0, 1, 2] rfl rfl ?_
  refine mv rfl .no (.u rfl) ?_
  refine fz rfl .no Fx.fo48_5 (.u rfl) ?_
  refine s1 rfl (.u rfl) (.u rfl) rfl Fx.sz3 (.there .here) (show 5 < 40 by decide) (show _ = ([.int .u8 (IntKind.u8.wrap (n14 : Int)), .int .u64 (n20 : Int), .int .u64 (n23 : Int), .int .u64 (n26 : Int), .int .i64 (IntKind.i64.wrap (n30 : Int)), .int .i64 (IntKind.i64.wrap (n37 : Int)), .string ByteArray.empty, .string ByteArray.empty] ++ ba 32 (fun _ => 0#8)) from rfl) ?_
  refine .nil ?_
  refine .code ?_
  refine .seq ?_
  refine Wk.rg [0, 1, 2, 3] rfl rfl ?_
  refine mv rfl .no (.u rfl) ?_
  refine ka rfl (.inr rfl) Fx.go66 (Eva.cons (.u rfl) (Eva.cons (.u rfl) Eva.nil)) (mtk1 (.there .here)) (qStr_ok B I37 e37 s b _ hs hI37 hl 1024 (by decide)) ?_
  rintro _ G43 μ43 hG43 ⟨M43, I43, e43, hN43, hI43, rfl, rfl⟩
  have hs := hs.mono hG43
  refine fz rfl .no Fx.fo48_6 (.u rfl) ?_
  refine s1 rfl (.u rfl) (.u rfl) rfl Fx.sz9 (.there .here) (show 6 < 40 by decide) (show _ = ([.int .u8 (IntKind.u8.wrap (n14 : Int)), .int .u64 (n20 : Int), .int .u64 (n23 : Int), .int .u64 (n26 : Int), .int .i64 (IntKind.i64.wrap (n30 : Int)), .int .i64 (IntKind.i64.wrap (n37 : Int)), .string (bstr M43), .string ByteArray.empty] ++ ba 32 (fun _ => 0#8)) from rfl) ?_
  refine .nil ?_
  refine .code ?_
  refine .seq ?_
  refine Wk.rg [0, 1, 2, 3] rfl rfl ?_
  refine mv rfl .no (.u rfl) ?_
  refine ka rfl (.inr rfl) Fx.go66 (Eva.cons (.u rfl) (Eva.cons (.u rfl) Eva.nil)) (mtk1 (.there .here)) (qStr_ok B I43 e43 s b _ hs hI43 hl 1024 (by decide)) ?_
  rintro _ G46 μ46 hG46 ⟨M46, I46, e46, hN46, hI46, rfl, rfl⟩
  have hs := hs.mono hG46
  refine fz rfl .no Fx.fo48_7 (.u rfl) ?_
  refine s1 rfl (.u rfl) (.u rfl) rfl Fx.sz9 (.there .here) (show 7 < 40 by decide) (show _ = ([.int .u8 (IntKind.u8.wrap (n14 : Int)), .int .u64 (n20 : Int), .int .u64 (n23 : Int), .int .u64 (n26 : Int), .int .i64 (IntKind.i64.wrap (n30 : Int)), .int .i64 (IntKind.i64.wrap (n37 : Int)), .string (bstr M43), .string (bstr M46)] ++ ba 32 (fun _ => 0#8)) from rfl) ?_
  refine .nil ?_
  refine .code ?_
  refine .seq ?_
  refine .seq ?_
  refine Wk.rg [0] rfl rfl ?_
  refine asg rfl .no (.u rfl) ?_
  refine .nil ?_
  refine .code ?_
  refine .block ?_
  refine Wk.lop (α := Nat × Nat × Int × (Nat → Y) × List Y) (fun gh => [(11, true, .int .i64 (gh.1 : Int))]) (fun gh => [.blk b4 (cl ([.int .u8 (IntKind.u8.wrap (n14 : Int)), .int .u64 (n20 : Int), .int .u64 (n23 : Int), .int .u64 (n26 : Int), .int .i64 (IntKind.i64.wrap (n30 : Int)), .int .i64 (IntKind.i64.wrap (n37 : Int)), .string (bstr M43), .string (bstr M46)] ++ ba 32 gh.2.2.2.1) 48), .blk b (cl [Sh.val s B.length, .int .i64 (gh.2.1 : Int), .int .i64 gh.2.2.1] 78)])
    (fun gh Gl => (gh.1 ≤ 32) ∧ (gh.2.2.2.2.length = gh.1) ∧ (ByR ⟨B.drop I46, e46⟩ ⟨B.drop gh.2.1, gh.2.2.1⟩ (((false || decide (255 < n14)) || decide (9223372036854775807 < n30)) || decide (9223372036854775807 < n37)) gh.2.2.2.2) ∧ (∀ i, gh.2.2.2.1 i = gh.2.2.2.2.getD i 0) ∧ (gh.2.1 ≤ B.length)) (fun gh => 32 - gh.1) (0, I46, e46, (fun _ => 0#8), []) [(0, true, _), (2, true, _), (4, true, _), (6, true, _), (8, true, _), (10, true, _)] [_]
    (ESub.cons rfl (by first | rfl | exact evi (by omega)) (ESub.cons rfl rfl (ESub.cons rfl rfl (ESub.cons rfl rfl (ESub.cons rfl rfl (ESub.cons rfl rfl (ESub.cons rfl rfl ESub.nil)))))))
    (MSub.cons .here rfl (MSub.cons .here rfl (MSub.cons .here rfl MSub.nil))) ?_ ?_
  · refine ⟨?_, ?_, ?_, ?_, ?_⟩
    · (try dsimp only) <;> (first | omega | rfl | assumption | (simp; done))
    · (try dsimp only) <;> (first | omega | rfl | assumption | (simp; done))
    · (try dsimp only) <;> (exact ByR.zero)
    · (try dsimp only) <;> (exact fun i => by simp)
    · (try dsimp only) <;> (first | omega | rfl | assumption | (simp; done))
  intro gh N0 Gl0 hN0 hGl0 hF0
  obtain ⟨k, J, ee, f, rt⟩ := gh; dsimp only at hF0 hN0 ⊢
  obtain ⟨hk, hr, hB, ef, hJ⟩ := hF0
  have hs := hs.mono hGl0
  refine .seq ?_
  refine .seq ?_
  refine Wk.rg [0, 1] rfl rfl ?_
  refine mv rfl .no (.u rfl) ?_
  refine cp rfl .no (.u rfl) (.u rfl) rfl ?_
  refine .nil ?_
  refine .code ?_
  refine .cond rfl (fun c1 => ?_) (fun c1 => ?_)
  · have c1k := c1
    try simp only [decide_eq_true_eq, decide_eq_false_iff_not, Int.not_lt, Int.not_le, gt_iff_lt, ge_iff_le, Bool.or_eq_true, Bool.and_eq_true, Bool.or_eq_false_iff, Bool.and_eq_false_iff, Bool.not_eq_true', Bool.not_eq_false', Int.toNat_natCast, bne_iff_ne, beq_iff_eq, bne_eq_false_iff_eq, beq_eq_false_iff_ne, ne_eq] at c1
    refine .skip ?_
    refine .code ?_
    refine .seq ?_
    refine .block ?_
    refine Wk.rg [0, 1, 2, 3, 4, 5, 6] rfl rfl ?_
    refine mv rfl .no (.u rfl) ?_
    refine mv rfl .no (.u rfl) ?_
    refine ka rfl (.inr rfl) Fx.go67 (Eva.cons (.u rfl) (Eva.cons (.u rfl) Eva.nil)) (mtk1 (.there .here)) (qFix_ok B J ee s b _ hs hJ hl) ?_
    rintro _ G54 μ54 hG54 ⟨y54, I54, e54, hN54, hI54, rfl, rfl⟩
    have hs := hs.mono hG54
    refine cu (k := .u64) rfl .no rfl Fx.cv24_5 (.u rfl) ?_
    refine fz rfl .no Fx.fo48_8 (.u rfl) ?_
    refine iA rfl .no Fx.ar46 (.u rfl) (.u rfl) (fun _ => by omega) (fun _ => by omega) ?_
    refine s1 rfl (.u rfl) (.u rfl) rfl Fx.sz5 (.there .here) (by show _ < 40; omega) (mset (k := k) (by omega)) ?_
    refine .nil ?_
    refine .blk ?_
    refine .code ?_
    refine Wk.rg [0, 1, 2] rfl rfl ?_
    refine mv rfl .no (.u rfl) ?_
    refine arn (((k + 1) : Nat) : Int) rfl .no (.u rfl) (.u rfl) rfl (fun _ => by omega) (fun _ => wrap_i64 (by omega) (by omega)) ?_
    refine asg rfl .no (.u rfl) ?_
    refine .nil ?_
    refine We.lpo (k + 1, I54, e54, upd f k ((y54.setWidth 64).setWidth 8), rt ++ [y54]) ?_ ?_ ?_ ?_ ?_
    · exact (ESub.cons rfl (by first | rfl | exact evi (by omega)) (ESub.cons rfl rfl (ESub.cons rfl rfl (ESub.cons rfl rfl (ESub.cons rfl rfl (ESub.cons rfl rfl (ESub.cons rfl rfl ESub.nil)))))))
    · exact (MSub.cons .here rfl (MSub.cons .here rfl (MSub.cons .here rfl MSub.nil)))
    · first | omega | (dsimp only; omega)
    · exact (hGl0).trans hG54
    · refine ⟨?_, ?_, ?_, ?_, ?_⟩
      · (try dsimp only) <;> (first | omega | rfl | assumption | (simp; done))
      · (try dsimp only) <;> (simp [hr])
      · (try dsimp only) <;> (exact hB.step (by omega) hN54)
      · (try dsimp only) <;> (exact rt_step hr ef)
      · (try dsimp only) <;> (first | omega | rfl | assumption | (simp; done))
  · have c1k := c1
    try simp only [decide_eq_true_eq, decide_eq_false_iff_not, Int.not_lt, Int.not_le, gt_iff_lt, ge_iff_le, Bool.or_eq_true, Bool.and_eq_true, Bool.or_eq_false_iff, Bool.and_eq_false_iff, Bool.not_eq_true', Bool.not_eq_false', Int.toNat_natCast, bne_iff_ne, beq_iff_eq, bne_eq_false_iff_eq, beq_eq_false_iff_ne, ne_eq] at c1
    refine .exit ?_
    refine .xcode ?_
    refine .xlp ?_
    refine .xblk ?_
    refine .code ?_
    refine .seq ?_
    refine Wk.mix ⟨false, false⟩ Fx.mix (by kernel_rfl) ?_
    refine Wt.one 0 (by kernel_rfl) ?_
    refine lA rfl .no Fx.ag48 (.u rfl) (fun _ => RdN.own .here) (fun _ => (by first | exact (ba_len _ _).trans (ba_len _ _).symm | exact (wa_len _ _).trans (wa_len _ _).symm | exact ba_len _ _ | exact wa_len _ _ | rfl | (simp only [wa_len, ba_len, List.length_append, List.length_cons, List.length_nil]))) ?_
    refine .nil ?_
    refine Wt.one 1 (by kernel_rfl) ?_
    refine mv rfl .no (.u rfl) ?_
    refine .nil ?_
    refine Wt.one 2 (by kernel_rfl) ?_
    refine mv rfl .no (.u rfl) ?_
    refine .nil ?_
    refine Wt.one 3 (by kernel_rfl) ?_
    refine mv rfl (.t rfl rfl) (.u rfl) ?_
    refine .nil ?_
    refine Wt.one 4 (by kernel_rfl) ?_
    refine pkA rfl .no (.u rfl) (.s rfl) ?_
    refine .nil ?_
    refine Wt.one 5 (by kernel_rfl) ?_
    refine mv rfl .no (.u rfl) ?_
    refine .nil ?_
    refine Wt.one 6 (by kernel_rfl) ?_
    refine mv rfl (.t rfl rfl) (.u rfl) ?_
    refine .nil ?_
    refine Wt.one 7 (by kernel_rfl) ?_
    refine pkA rfl .no (.u rfl) (.s rfl) ?_
    refine .nil ?_
    refine Wt.one 8 (by kernel_rfl) ?_
    refine mv rfl .no (.u rfl) ?_
    refine .nil ?_
    refine Wt.one 9 (by kernel_rfl) ?_
    refine mv rfl (.t rfl rfl) (.u rfl) ?_
    refine .nil ?_
    refine Wt.one 10 (by kernel_rfl) ?_
    refine nc rfl (.t rfl rfl) (.s rfl) ?_
    refine .nil ?_
    refine Wt.one 11 (by kernel_rfl) ?_
    refine fz rfl (.t rfl rfl) Fx.fo78_2 (.s rfl) ?_
    refine .nil ?_
    refine Wt.b2 12 15 (by kernel_rfl) ?_ ?_
    · refine ld rfl (.t rfl rfl) Fx.ag35 (.s rfl) (fun hc => Rd.own (.there .here) (by first | exact wap_f rfl | rfl)) ?_
      refine .nil ?_
      refine Wt.one 13 (by kernel_rfl) ?_
      refine cp rfl (.t rfl rfl) (.s rfl) (.u rfl) rfl ?_
      refine .nil ?_
      refine Wt.one 14 (by kernel_rfl) ?_
      refine pkA rfl .no (.u rfl) (.s rfl) ?_
      refine .nil ?_
      refine Wt.b1 15 (by kernel_rfl) ?_
      refine sw rfl (.u rfl) (.u rfl) rfl Fx.sz48 (.there (.there .here)) (by first | exact (ba_len _ _).trans (ba_len _ _).symm | exact (wa_len _ _).trans (wa_len _ _).symm | exact ba_len _ _ | exact wa_len _ _ | rfl | (simp only [wa_len, ba_len, List.length_append, List.length_cons, List.length_nil])) (mone rfl rfl rfl rfl rfl rfl rfl rfl) ?_
      refine .nil ?_
      refine Wt.one 16 (by kernel_rfl) ?_
      refine asg rfl .no (.u rfl) ?_
      refine .nil ?_
      refine Wt.last (by kernel_rfl) ?_
      refine .code ?_
      refine .ret ?_
      refine We.fin Try.results41 (.cell rfl (fun w hw => run_loadVarN Fx.ag48 (RdN.own .here) ((by first | exact (ba_len _ _).trans (ba_len _ _).symm | exact (wa_len _ _).trans (wa_len _ _).symm | exact ba_len _ _ | exact wa_len _ _ | rfl | (simp only [wa_len, ba_len, List.length_append, List.length_cons, List.length_nil]))) hw) (.tmp rfl .nil)) (MSub.cons (.there (.there .here)) rfl MSub.nil) ?_
      obtain rfl : k = 32 := by omega
      exact ⟨_, J, ee, _, metaR hN14 w_u8 hN20 hN23 hN26 hN30 w_i64 hN37 w_i64 hN43 hN46 rfl hB hr (funext fun i => by rw [← ef i]), hJ, rfl, by rw [← flag_m, ek14, ek30, ek37]; rfl⟩
    · refine sw rfl (.u rfl) (.u rfl) rfl Fx.sz48 (.there (.there .here)) (by first | exact (ba_len _ _).trans (ba_len _ _).symm | exact (wa_len _ _).trans (wa_len _ _).symm | exact ba_len _ _ | exact wa_len _ _ | rfl | (simp only [wa_len, ba_len, List.length_append, List.length_cons, List.length_nil])) (mone rfl rfl rfl rfl rfl rfl rfl rfl) ?_
      refine .nil ?_
      refine Wt.one 12 (by kernel_rfl) ?_
      refine ld rfl (.t rfl rfl) Fx.ag35 (.s rfl) (fun hc => Rd.own (.there (.there .here)) (by first | exact wap_f rfl | rfl)) ?_
      refine .nil ?_
      refine Wt.one 13 (by kernel_rfl) ?_
      refine cp rfl (.t rfl rfl) (.s rfl) (.u rfl) rfl ?_
      refine .nil ?_
      refine Wt.one 14 (by kernel_rfl) ?_
      refine pkA rfl .no (.u rfl) (.s rfl) ?_
      refine .nil ?_
      refine Wt.one 16 (by kernel_rfl) ?_
      refine asg rfl .no (.u rfl) ?_
      refine .nil ?_
      refine Wt.last (by kernel_rfl) ?_
      refine .code ?_
      refine .ret ?_
      refine We.fin Try.results41 (.cell rfl (fun w hw => run_loadVarN Fx.ag48 (RdN.own .here) ((by first | exact (ba_len _ _).trans (ba_len _ _).symm | exact (wa_len _ _).trans (wa_len _ _).symm | exact ba_len _ _ | exact wa_len _ _ | rfl | (simp only [wa_len, ba_len, List.length_append, List.length_cons, List.length_nil]))) hw) (.tmp rfl .nil)) (MSub.cons (.there (.there .here)) rfl MSub.nil) ?_
      obtain rfl : k = 32 := by omega
      exact ⟨_, J, ee, _, metaR hN14 w_u8 hN20 hN23 hN26 hN30 w_i64 hN37 w_i64 hN43 hN46 rfl hB hr (funext fun i => by rw [← ef i]), hJ, rfl, by rw [← flag_m, ek14, ek30, ek37]; rfl⟩

end Go.Proofs.Ytnhdaaggkdegpaa

namespace Go.Proofs.Ytnhdaaggkdegpaa
set_option linter.unusedSimpArgs false
set_option linter.unusedVariables false
open Go.Tan Go.RowKit

namespace Fx
theorem bp78_0 : bPl Try.prog 78 [0] = some ([.slice none 0 0, .int .i64 0, .int .i64 0], [(0, 1)]) := by kernel_rfl
theorem bp32_0 : bPl Try.prog 32 [0] = some (nine (fun _ => 0) ++ [.slice none 0 0, .slice none 0 0], [(0, 1)]) := by kernel_rfl
theorem go41 : goFn Try.prog 41 = true := by kernel_rfl
theorem bp51_0_1 : bPl Try.prog 51 [0, 1] = some ([.int .u8 0, .int .u64 0], [(0, 1), (1, 1)]) := by kernel_rfl
theorem go43 : goFn Try.prog 43 = true := by kernel_rfl
end Fx
set_option maxHeartbeats 2000000 in
theorem rdecode_ok (xs : List Y) (h : Sh) (G : PM) (hs : SlR G 1 encY h xs) (hl : xs.length ≤ 100000000000000) : Ct Try.prog 16 ([h.val xs.length] : List Value).toArray G [] (fun G' μ' u => ∃ e err ha hd, DecR xs e err ∧ μ' = [] ∧ u = .tuple #[Edit.val e ha hd, .int .i64 err] ∧ EdR G' e ha hd) := by
  refine Ct.of Try.func16 rfl Try.ntmps16 rfl fun w0 hs0 => ?_
  refine .seq ?_
  refine Wk.rg [0, 1] rfl rfl ?_
  refine al rfl Fx.zr32 ?_; intro b2
  refine asg rfl .no (.u rfl) ?_
  refine .nil ?_
  refine .code ?_
  refine .seq ?_
  refine Wk.rg [0, 1, 2, 3] rfl rfl ?_
  refine mv rfl .no (.u rfl) ?_
  refine bCe ([h.val xs.length, .int .i64 ((0 : Nat) : Int), .int .i64 0]) rfl .no Fx.bp78_0 (.cons (.u rfl) rfl .nil) rfl (rfl) ?_
  refine bx rfl (.u rfl) rfl ?_; intro b15
  refine asg rfl .no (.u rfl) ?_
  refine .nil ?_
  refine .code ?_
  refine .seq ?_
  refine Wk.rg [0, 1, 2, 3, 4] rfl rfl ?_
  refine mv rfl .no (.u rfl) ?_
  refine ka rfl (.inr rfl) Fx.go40 (Eva.cons (.u rfl) Eva.nil) (mtk1 .here) (qNum_ok xs 0 0 h b15 _ hs (Nat.zero_le _) hl) ?_
  rintro _ G17 μ17 hG17 ⟨n17, I17, e17, hN17, hI17, rfl, rfl⟩
  have nL17 := rdnum_lt hN17
  have hs := hs.mono hG17
  refine bCe (nine (upd (fun _ => 0) 0 (n17 : Int)) ++ [.slice none 0 0, .slice none 0 0]) rfl .no Fx.bp32_0 (.cons (.u rfl) rfl .nil) rfl (rfl) ?_
  refine al rfl Fx.zr32 ?_; intro b5
  refine sw rfl (.u rfl) (.u rfl) rfl Fx.sz32 .here (by first | exact nine2_len | exact nine2_len.trans nine2_len.symm | rfl) (nine_one rfl rfl) ?_
  refine .nil ?_
  refine .code ?_
  refine .seq ?_
  refine Wk.rg [0, 1, 2, 3] rfl rfl ?_
  refine mv rfl .no (.u rfl) ?_
  refine ka rfl (.inr rfl) Fx.go40 (Eva.cons (.u rfl) Eva.nil) (mtk1 (.there .here)) (qNum_ok xs I17 e17 h b15 _ hs hI17 hl) ?_
  rintro _ G20 μ20 hG20 ⟨n20, I20, e20, hN20, hI20, rfl, rfl⟩
  have nL20 := rdnum_lt hN20
  have hs := hs.mono hG20
  refine fz rfl .no Fx.fo32_1 (.u rfl) ?_
  refine s1 rfl (.u rfl) (.u rfl) rfl Fx.sz24 (.there .here) (by first | decide | (simp only [List.length_append, nine_len, List.length_cons, List.length_nil]; omega)) (nine_st (k := 1) rfl (by decide)) ?_
  refine .nil ?_
  refine .code ?_
  refine .seq ?_
  refine Wk.rg [0, 1, 2, 3] rfl rfl ?_
  refine mv rfl .no (.u rfl) ?_
  refine ka rfl (.inr rfl) Fx.go40 (Eva.cons (.u rfl) Eva.nil) (mtk1 (.there .here)) (qNum_ok xs I20 e20 h b15 _ hs hI20 hl) ?_
  rintro _ G23 μ23 hG23 ⟨n23, I23, e23, hN23, hI23, rfl, rfl⟩
  have nL23 := rdnum_lt hN23
  have hs := hs.mono hG23
  refine fz rfl .no Fx.fo32_2 (.u rfl) ?_
  refine s1 rfl (.u rfl) (.u rfl) rfl Fx.sz24 (.there .here) (by first | decide | (simp only [List.length_append, nine_len, List.length_cons, List.length_nil]; omega)) (nine_st (k := 2) rfl (by decide)) ?_
  refine .nil ?_
  refine .code ?_
  refine .seq ?_
  refine Wk.rg [0, 1, 2, 3] rfl rfl ?_
  refine mv rfl .no (.u rfl) ?_
  refine ka rfl (.inr rfl) Fx.go40 (Eva.cons (.u rfl) Eva.nil) (mtk1 (.there .here)) (qNum_ok xs I23 e23 h b15 _ hs hI23 hl) ?_
  rintro _ G26 μ26 hG26 ⟨n26, I26, e26, hN26, hI26, rfl, rfl⟩
  have nL26 := rdnum_lt hN26
  have hs := hs.mono hG26
  refine fz rfl .no Fx.fo32_3 (.u rfl) ?_
  refine s1 rfl (.u rfl) (.u rfl) rfl Fx.sz24 (.there .here) (by first | decide | (simp only [List.length_append, nine_len, List.length_cons, List.length_nil]; omega)) (nine_st (k := 3) rfl (by decide)) ?_
  refine .nil ?_
  refine .code ?_
  refine .seq ?_
  refine .seq ?_
  refine Wk.rg [0] rfl rfl ?_
  refine asg rfl .no (.u rfl) ?_
  refine .nil ?_
  refine .code ?_
  refine .block ?_
  refine Wk.lop (α := Nat × Nat × Int × (Nat → Int) × List Nat) (fun gh => [(6, true, .int .i64 (gh.1 : Int))]) (fun gh => [.blk b5 (cl (nine gh.2.2.2.1 ++ [.slice none 0 0, .slice none 0 0]) 32), .blk b15 (cl [Sh.val h xs.length, .int .i64 (gh.2.1 : Int), .int .i64 gh.2.2.1] 78)])
    (fun gh Gl => (gh.1 ≤ 5) ∧ (gh.2.2.2.2.length = 4 + gh.1) ∧ (RpR (fun α => @pNum α) 9 ⟨xs.drop 0, 0⟩ ⟨xs.drop gh.2.1, gh.2.2.1⟩ false false gh.2.2.2.2) ∧ (∀ i, gh.2.2.2.1 i = ((gh.2.2.2.2.getD i 0 : Nat) : Int)) ∧ (gh.2.1 ≤ xs.length)) (fun gh => 5 - gh.1) (0, I26, e26, upd (upd (upd (upd (fun _ => 0) 0 (n17 : Int)) 1 (n20 : Int)) 2 (n23 : Int)) 3 (n26 : Int), ((([] ++ [n17]) ++ [n20]) ++ [n23]) ++ [n26]) [(2, true, _), (4, true, _), (5, true, _)] [_]
    (ESub.cons rfl (by first | rfl | exact evi (by omega)) (ESub.cons rfl rfl (ESub.cons rfl rfl (ESub.cons rfl rfl ESub.nil))))
    (MSub.cons .here rfl (MSub.cons .here rfl (MSub.cons .here rfl MSub.nil))) ?_ ?_
  · refine ⟨?_, ?_, ?_, ?_, ?_⟩
    · (try dsimp only) <;> (first | omega | rfl | assumption | (simp; done))
    · (try dsimp only) <;> (rfl)
    · (try dsimp only) <;> (exact (((RpR.zero.step (by decide) (fun α O k h => h.numE hN17)).step (by show 1 < 9; decide) (fun α O k h => h.numE hN20)).step (by show 2 < 9; decide) (fun α O k h => h.numE hN23)).step (by show 3 < 9; decide) (fun α O k h => h.numE hN26))
    · (try dsimp only) <;> (exact gs_step rfl (gs_step rfl (gs_step rfl (gs_step rfl (fun i => by simp)))))
    · (try dsimp only) <;> (first | omega | rfl | assumption | (simp; done))
  intro gh N0 Gl0 hN0 hGl0 hF0
  obtain ⟨k2, I2, e2, g2, rt2⟩ := gh; dsimp only at hF0 hN0 ⊢
  obtain ⟨hk2, hr2, hR2, eg2, hI2⟩ := hF0
  have hs := hs.mono hGl0
  refine .seq ?_
  refine .seq ?_
  refine Wk.rg [0, 1] rfl rfl ?_
  refine mv rfl .no (.u rfl) ?_
  refine cp rfl .no (.u rfl) (.u rfl) rfl ?_
  refine .nil ?_
  refine .code ?_
  refine .cond rfl (fun c1 => ?_) (fun c1 => ?_)
  · have c1k := c1
    try simp only [decide_eq_true_eq, decide_eq_false_iff_not, Int.not_lt, Int.not_le, gt_iff_lt, ge_iff_le, Bool.or_eq_true, Bool.and_eq_true, Bool.or_eq_false_iff, Bool.and_eq_false_iff, Bool.not_eq_true', Bool.not_eq_false', Int.toNat_natCast, bne_iff_ne, beq_iff_eq, bne_eq_false_iff_eq, beq_eq_false_iff_ne, ne_eq] at c1
    refine .skip ?_
    refine .code ?_
    refine .seq ?_
    refine .block ?_
    refine Wk.rg [0, 1, 2, 3, 4, 5] rfl rfl ?_
    refine mv rfl .no (.u rfl) ?_
    refine mv rfl .no (.u rfl) ?_
    refine ka rfl (.inr rfl) Fx.go40 (Eva.cons (.u rfl) Eva.nil) (mtk1 (.there .here)) (qNum_ok xs I2 e2 h b15 _ hs hI2 hl) ?_
    rintro _ G34 μ34 hG34 ⟨n34, I34, e34, hN34, hI34, rfl, rfl⟩
    have nL34 := rdnum_lt hN34
    have hs := hs.mono hG34
    refine fz rfl .no Fx.fo32_4 (.u rfl) ?_
    refine iA rfl .no Fx.ar25 (.u rfl) (.u rfl) (fun _ => by omega) (fun _ => by omega) ?_
    refine s1 rfl (.u rfl) (.u rfl) rfl Fx.sz24 (.there .here) (by first | decide | (simp only [List.length_append, nine_len, List.length_cons, List.length_nil]; omega)) (nine_st (k := 4 + k2) (by omega) (by omega)) ?_
    refine .nil ?_
    refine .blk ?_
    refine .code ?_
    refine Wk.rg [0, 1, 2] rfl rfl ?_
    refine mv rfl .no (.u rfl) ?_
    refine arn (((k2 + 1) : Nat) : Int) rfl .no (.u rfl) (.u rfl) rfl (fun _ => by omega) (fun _ => wrap_i64 (by omega) (by omega)) ?_
    refine asg rfl .no (.u rfl) ?_
    refine .nil ?_
    refine We.lpo (k2 + 1, I34, e34, upd g2 (4 + k2) (n34 : Int), rt2 ++ [n34]) ?_ ?_ ?_ ?_ ?_
    · exact (ESub.cons rfl (by first | rfl | exact evi (by omega)) (ESub.cons rfl rfl (ESub.cons rfl rfl (ESub.cons rfl rfl ESub.nil))))
    · exact (MSub.cons .here rfl (MSub.cons .here rfl (MSub.cons .here rfl MSub.nil)))
    · first | omega | (dsimp only; omega)
    · exact (hGl0).trans hG34
    · refine ⟨?_, ?_, ?_, ?_, ?_⟩
      · (try dsimp only) <;> (first | omega | rfl | assumption | (simp; done))
      · (try dsimp only) <;> (simp [hr2]; omega)
      · (try dsimp only) <;> (exact hR2.step (by omega) (fun α O k h => h.numE hN34))
      · (try dsimp only) <;> (exact gs_step hr2 eg2)
      · (try dsimp only) <;> (first | omega | rfl | assumption | (simp; done))
  · have c1k := c1
    try simp only [decide_eq_true_eq, decide_eq_false_iff_not, Int.not_lt, Int.not_le, gt_iff_lt, ge_iff_le, Bool.or_eq_true, Bool.and_eq_true, Bool.or_eq_false_iff, Bool.and_eq_false_iff, Bool.not_eq_true', Bool.not_eq_false', Int.toNat_natCast, bne_iff_ne, beq_iff_eq, bne_eq_false_iff_eq, beq_eq_false_iff_ne, ne_eq] at c1
    refine .exit ?_
    refine .xcode ?_
    refine .xlp ?_
    refine .xblk ?_
    refine .code ?_
    refine .seq ?_
    refine wk_nilS 40 Meta.cells 48 ?_
    refine Wk.rg [0, 1, 2] rfl rfl ?_
    refine mv rfl .no (.u rfl) ?_
    refine ka rfl (.inr rfl) Fx.go40 (Eva.cons (.u rfl) Eva.nil) (mtk1 (.there (.there .here))) (qNum_ok xs I2 e2 h b15 _ hs hI2 hl) ?_
    rintro _ G38 μ38 hG38 ⟨n38, I38, e38, hN38, hI38, rfl, rfl⟩
    have nL38 := rdnum_lt hN38
    have hs := hs.mono hG38
    refine asg rfl .no (.u rfl) ?_
    refine .nil ?_
    refine .code ?_
    refine .seq ?_
    refine Wk.rg [0, 1, 2, 3, 4, 5, 6, 7, 8, 9] rfl rfl ?_
    refine mv rfl .no (.u rfl) ?_
    refine nc rfl .no (.u rfl) ?_
    refine fz rfl .no Fx.fo78_2 (.u rfl) ?_
    refine ld rfl .no Fx.ag35 (.u rfl) (fun _ => Rd.own .here (by first | exact wap_f rfl | rfl)) ?_
    refine cp rfl .no (.u rfl) (.u rfl) rfl ?_
    refine mv rfl .no (.u rfl) ?_
    refine mv rfl (.t rfl rfl) (.u rfl) ?_
    refine cp rfl (.t rfl rfl) (.s rfl) (.u rfl) rfl ?_
    refine pkA rfl .no (.u rfl) (.s rfl) ?_
    refine asg rfl .no (.u rfl) ?_
    refine .nil ?_
    refine .code ?_
    refine .seq ?_
    refine .block ?_
    have hT1 := dec_b (dec_a hR2 (by omega)) hN38 (flag_a (n := n38) (e := e38))
    refine Wk.lop (α := Nat × Value × Nat × Int × Bool × List Meta) (fun gh => [(7, true, .int .u64 (gh.1 : Int)), (8, true, .bool (!gh.2.2.2.2.1))]) (fun gh => [.blk b15 (cl [Sh.val h xs.length, .int .i64 (gh.2.2.1 : Int), .int .i64 gh.2.2.2.1] 78), rS 40 Meta.cells gh.2.1 48 gh.2.2.2.2.2, .blk b5 (cl (nine g2 ++ [gh.2.1, .slice none 0 0]) 32)])
      (fun gh Gl => (gh.1 + gh.2.2.2.2.2.length = n38) ∧ (RpR (fun α => @pMeta α) n38 ⟨xs.drop I38, e38⟩ ⟨xs.drop gh.2.2.1, gh.2.2.2.1⟩ (!((e38 == 0) && decide ((n38 : Int) ≤ 1024))) gh.2.2.2.2.1 gh.2.2.2.2.2) ∧ (gh.2.2.2.2.1 = false → n38 ≤ 1024) ∧ (gh.2.2.1 ≤ xs.length)) (fun gh => gh.1) (n38, .slice none 0 0, I38, e38, !((e38 == 0) && decide ((n38 : Int) ≤ 1024)), []) [(2, true, _), (4, true, _), (5, true, _)] [_]
      (ESub.cons rfl rfl (ESub.cons rfl (congrArg Value.bool (Bool.not_not _).symm) (ESub.cons rfl rfl (ESub.cons rfl rfl (ESub.cons rfl rfl ESub.nil)))))
      (MSub.cons .here rfl (MSub.cons .here rfl (MSub.cons .here rfl (MSub.cons .here rfl MSub.nil)))) ?_ ?_
    · refine ⟨?_, ?_, ?_, ?_⟩
      · (try dsimp only) <;> (first | omega | rfl | assumption | (simp; done))
      · (try dsimp only) <;> (exact RpR.zero)
      · (try dsimp only) <;> (exact fun h => up_le flag_a h)
      · (try dsimp only) <;> (first | omega | rfl | assumption | (simp; done))
    intro gh N1 Gl1 hN1 hGl1 hF1
    obtain ⟨n, va, I3, e3, bad3, add⟩ := gh; dsimp only at hF1 hN1 ⊢
    obtain ⟨hn3, hR3, hbd, hI3⟩ := hF1
    have hs := hs.mono hGl1
    refine .seq ?_
    refine .seq ?_
    refine Wk.rg [0, 1, 2, 3, 4] rfl rfl ?_
    refine mv rfl .no (.u rfl) ?_
    refine cp rfl .no (.u rfl) (.u rfl) rfl ?_
    refine mv rfl .no (.u rfl) ?_
    refine mv rfl (.t rfl rfl) (.u rfl) ?_
    refine pkA rfl .no (.u rfl) (.s rfl) ?_
    refine .nil ?_
    refine .code ?_
    refine .cond rfl (fun c2 => ?_) (fun c2 => ?_)
    · have c2k := c2
      try simp only [decide_eq_true_eq, decide_eq_false_iff_not, Int.not_lt, Int.not_le, gt_iff_lt, ge_iff_le, Bool.or_eq_true, Bool.and_eq_true, Bool.or_eq_false_iff, Bool.and_eq_false_iff, Bool.not_eq_true', Bool.not_eq_false', Int.toNat_natCast, bne_iff_ne, beq_iff_eq, bne_eq_false_iff_eq, beq_eq_false_iff_ne, ne_eq] at c2
      refine .skip ?_
      refine .code ?_
      refine .seq ?_
      refine .block ?_
      refine .seq ?_
      refine Wk.rg [0, 1, 2, 3, 4, 5, 6, 7] rfl rfl ?_
      refine mv rfl .no (.u rfl) ?_
      refine ka rfl (.inr rfl) Fx.go41 (Eva.cons (.u rfl) Eva.nil) (mtk1 .here) (rmeta_ok xs I3 e3 h b15 _ hs hI3 hl) ?_
      rintro _ G57 μ57 hG57 ⟨m57, I57, e57, bad57, hM57, hI57, rfl, rfl⟩
      have hs := hs.mono hG57
      refine mv rfl .no (.u rfl) ?_
      refine ex rfl .no (.u rfl) rfl ?_
      refine ex rfl .no (.u rfl) rfl ?_
      refine al rfl Fx.zr48 ?_; intro b9
      refine sw rfl (.u rfl) (.u rfl) rfl Fx.sz48 .here rfl (Meta.one _) ?_
      refine asg rfl .no (.u rfl) ?_
      refine .nil ?_
      refine .code ?_
      refine .seq ?_
      refine Wk.rg [0, 1] rfl rfl ?_
      refine mv rfl .no (.u rfl) ?_
      refine asg rfl .no (.u rfl) ?_
      refine .nil ?_
      refine .code ?_
      refine Wk.rg [0, 1, 2, 3, 4, 5, 6] rfl rfl ?_
      refine fz rfl .no Fx.fo32_5 (.u rfl) ?_
      refine ld rfl .no Fx.ag22 (.u rfl) (fun _ => Rd.own (.there (.there (.there .here))) nine_a) ?_
      refine lA rfl .no Fx.ag48 (.u rfl) (fun _ => RdN.own .here) (fun _ => (by first | exact nine2_len | exact nine2_len.trans nine2_len.symm | rfl)) ?_
      refine Go.Tan.b1 rfl Fx.se22 Fx.zv48 (.u rfl) rfl rfl (by decide) ?_; intro b64
      refine apS (m57) rfl Fx.se22 Fx.zv48 rfl (.u rfl) (.u rfl) (.there (.there (.there .here))) .here (Meta.len _) (Meta.one _) (by have := hbd c2.2; omega) (by have := hbd c2.2; unfold maxLen; omega) ?_; intro v65 ov65
      refine fz rfl .no Fx.fo32_5 (.u rfl) ?_
      refine s1v rfl (.u rfl) (.u rfl) .here Fx.sz22 (.there (.there (.there (.there .here)))) (by first | decide | (simp only [List.length_append, nine_len, List.length_cons, List.length_nil]; omega)) (nine_sa) ?_
      refine .nil ?_
      refine .blk ?_
      refine .code ?_
      refine Wk.rg [0, 1, 2] rfl rfl ?_
      refine mv rfl .no (.u rfl) ?_
      refine ar rfl .no (.u rfl) (.u rfl) rfl (fun _ => wrap_u64 (by omega) (by omega)) ?_
      refine asg rfl .no (.u rfl) ?_
      refine .nil ?_
      refine We.lpo (n - 1, v65, I57, e57, bad57, add ++ [m57]) ?_ ?_ ?_ ?_ ?_
      · exact (ESub.cons rfl (evi (by omega)) (ESub.cons rfl rfl (ESub.cons rfl rfl (ESub.cons rfl rfl (ESub.cons rfl rfl ESub.nil)))))
      · exact (MSub.cons (.there (.there (.there (.there .here)))) rfl (MSub.cons (.there .here) rfl (MSub.cons .here rfl (MSub.cons (.there (.there .here)) rfl MSub.nil))))
      · first | omega | (dsimp only; omega)
      · exact (hGl1).trans hG57
      · refine ⟨?_, ?_, ?_, ?_⟩
        · (try dsimp only) <;> (rw [List.length_append]; show _ + (_ + 1) = _; omega)
        · (try dsimp only) <;> (exact hR3.step (by omega) (fun α O k h => hM57 α O k (by rw [c2.2] at h; exact h)))
        · (try dsimp only) <;> (exact fun _ => hbd c2.2)
        · (try dsimp only) <;> (first | omega | rfl | assumption | (simp; done))
    · have c2k := c2
      try simp only [decide_eq_true_eq, decide_eq_false_iff_not, Int.not_lt, Int.not_le, gt_iff_lt, ge_iff_le, Bool.or_eq_true, Bool.and_eq_true, Bool.or_eq_false_iff, Bool.and_eq_false_iff, Bool.not_eq_true', Bool.not_eq_false', Int.toNat_natCast, bne_iff_ne, beq_iff_eq, bne_eq_false_iff_eq, beq_eq_false_iff_ne, ne_eq] at c2
      refine .exit ?_
      refine .xcode ?_
      refine .xlp ?_
      refine .xblk ?_
      refine .code ?_
      refine .seq ?_
      have hT2 := dec_c hT1 hR3 hn3 (by first | exact c2.imp (fun h => by omega) (fun h => by simpa using h) | (rcases c2 with h1 | h1; (exact .inl (by omega)); (exact .inr (by simpa using h1))))
      refine wk_nilS 2 Gone.cells 51 ?_
      refine Wk.rg [0, 1, 2] rfl rfl ?_
      refine mv rfl .no (.u rfl) ?_
      refine ka rfl (.inr rfl) Fx.go40 (Eva.cons (.u rfl) Eva.nil) (mtk1 (.there .here)) (qNum_ok xs I3 e3 h b15 _ hs hI3 hl) ?_
      rintro _ G68 μ68 hG68 ⟨n68, I68, e68, hN68, hI68, rfl, rfl⟩
      have nL68 := rdnum_lt hN68
      have hs := hs.mono hG68
      refine asg rfl .no (.u rfl) ?_
      refine .nil ?_
      refine .code ?_
      refine .seq ?_
      refine Wk.rg [0, 1, 2, 3, 4, 5] rfl rfl ?_
      refine mv rfl .no (.u rfl) ?_
      refine mv rfl .no (.u rfl) ?_
      refine mv rfl (.t rfl rfl) (.u rfl) ?_
      refine cp rfl (.t rfl rfl) (.s rfl) (.u rfl) rfl ?_
      refine pkA rfl .no (.u rfl) (.s rfl) ?_
      refine asg rfl .no (.u rfl) ?_
      refine .nil ?_
      refine .code ?_
      refine .seq ?_
      refine .block ?_
      have hT3 := dec_dR hT2 hN68 (flag_d (n := n68) (bad := bad3))
      refine Wk.lop (α := Nat × Value × Nat × Int × Bool × List Gone) (fun gh => [(7, true, .int .u64 (gh.1 : Int)), (8, true, .bool (!gh.2.2.2.2.1))]) (fun gh => [.blk b15 (cl [Sh.val h xs.length, .int .i64 (gh.2.2.1 : Int), .int .i64 gh.2.2.2.1] 78), rS 2 Gone.cells gh.2.1 51 gh.2.2.2.2.2, .blk b5 (cl (nine g2 ++ [va, gh.2.1]) 32)])
        (fun gh Gl => (gh.1 + gh.2.2.2.2.2.length = n68) ∧ (RpR (fun α => @pGone α) n68 ⟨xs.drop I68, e68⟩ ⟨xs.drop gh.2.2.1, gh.2.2.2.1⟩ (!(!bad3 && decide ((n68 : Int) ≤ 1024))) gh.2.2.2.2.1 gh.2.2.2.2.2) ∧ (gh.2.2.2.2.1 = false → n68 ≤ 1024) ∧ (gh.2.2.1 ≤ xs.length)) (fun gh => gh.1) (n68, .slice none 0 0, I68, e68, !(!bad3 && decide ((n68 : Int) ≤ 1024)), []) [(2, true, _), (4, true, _), (5, true, _)] [_, _]
        (ESub.cons rfl rfl (ESub.cons rfl (congrArg Value.bool (Bool.not_not _).symm) (ESub.cons rfl rfl (ESub.cons rfl rfl (ESub.cons rfl rfl ESub.nil)))))
        (MSub.cons .here rfl (MSub.cons .here rfl (MSub.cons (.there .here) rfl (MSub.cons .here rfl (MSub.cons .here rfl MSub.nil))))) ?_ ?_
      · refine ⟨?_, ?_, ?_, ?_⟩
        · (try dsimp only) <;> (first | omega | rfl | assumption | (simp; done))
        · (try dsimp only) <;> (exact RpR.zero)
        · (try dsimp only) <;> (exact fun h => upR_le h)
        · (try dsimp only) <;> (first | omega | rfl | assumption | (simp; done))
      intro gh N2 Gl2 hN2 hGl2 hF2
      obtain ⟨q, vd, I4, e4, bad4, dr⟩ := gh; dsimp only at hF2 hN2 ⊢
      obtain ⟨hn4, hR4, hbd4, hI4⟩ := hF2
      have hs := hs.mono hGl2
      refine .seq ?_
      refine .seq ?_
      refine Wk.rg [0, 1, 2, 3, 4] rfl rfl ?_
      refine mv rfl .no (.u rfl) ?_
      refine cp rfl .no (.u rfl) (.u rfl) rfl ?_
      refine mv rfl .no (.u rfl) ?_
      refine mv rfl (.t rfl rfl) (.u rfl) ?_
      refine pkA rfl .no (.u rfl) (.s rfl) ?_
      refine .nil ?_
      refine .code ?_
      refine .cond rfl (fun c3 => ?_) (fun c3 => ?_)
      · have c3k := c3
        try simp only [decide_eq_true_eq, decide_eq_false_iff_not, Int.not_lt, Int.not_le, gt_iff_lt, ge_iff_le, Bool.or_eq_true, Bool.and_eq_true, Bool.or_eq_false_iff, Bool.and_eq_false_iff, Bool.not_eq_true', Bool.not_eq_false', Int.toNat_natCast, bne_iff_ne, beq_iff_eq, bne_eq_false_iff_eq, beq_eq_false_iff_ne, ne_eq] at c3
        refine .skip ?_
        refine .code ?_
        refine .seq ?_
        refine .block ?_
        refine .seq ?_
        refine Wk.rg [0, 1, 2, 3, 4, 5, 6] rfl rfl ?_
        refine mv rfl .no (.u rfl) ?_
        refine ka rfl (.inr rfl) Fx.go42 (Eva.cons (.u rfl) Eva.nil) (mtk1 .here) (small_ok xs I4 e4 h b15 _ hs hI4 hl) ?_
        rintro _ G83 μ83 hG83 ⟨n83, I83, e83, k83, hN83, hI83, ek83, rfl, rfl⟩
        have nL83 := rdnum_lt hN83
        have hs := hs.mono hG83
        refine mv rfl .no (.u rfl) ?_
        refine ex rfl .no (.u rfl) rfl ?_
        refine ex rfl .no (.u rfl) rfl ?_
        refine asg rfl .no (.u rfl) ?_
        refine asg rfl .no (.u rfl) ?_
        refine .nil ?_
        refine .code ?_
        refine .seq ?_
        refine Wk.rg [0, 1, 2, 3, 4, 5, 6, 7, 8] rfl rfl ?_
        refine mv rfl .no (.u rfl) ?_
        refine mv rfl .no (.u rfl) ?_
        refine mv rfl (.t rfl rfl) (.u rfl) ?_
        refine nc rfl (.t rfl rfl) (.s rfl) ?_
        refine fz rfl (.t rfl rfl) Fx.fo78_2 (.s rfl) ?_
        refine ld rfl (.t rfl rfl) Fx.ag35 (.s rfl) (fun hc => Rd.own .here (by first | exact wap_f rfl | rfl)) ?_
        refine cp rfl (.t rfl rfl) (.s rfl) (.u rfl) rfl ?_
        refine pkA rfl .no (.u rfl) (.s rfl) ?_
        refine asg rfl .no (.u rfl) ?_
        refine .nil ?_
        refine .code ?_
        refine Wk.mix ⟨true, false⟩ Fx.mix (by kernel_rfl) ?_
        refine Wt.one 0 (by kernel_rfl) ?_
        refine fz rfl .no Fx.fo32_6 (.u rfl) ?_
        refine .nil ?_
        refine Wt.one 2 (by kernel_rfl) ?_
        refine mv rfl .no (.u rfl) ?_
        refine .nil ?_
        refine Wt.one 3 (by kernel_rfl) ?_
        refine mv rfl .no (.u rfl) ?_
        refine .nil ?_
        refine Wt.b2 1 4 (by kernel_rfl) ?_ ?_
        · refine ld rfl .no Fx.ag30 (.u rfl) (fun _ => Rd.own (.there (.there .here)) nine_d) ?_
          refine .nil ?_
          refine Wt.b1 4 (by kernel_rfl) ?_
          refine ka rfl (.inl rfl) Fx.go40 (Eva.cons (.u rfl) Eva.nil) (mtk1 .here) (qNum_ok xs I83 e83 h b15 _ hs hI83 hl) ?_
          rintro _ G98 μ98 hG98 ⟨n98, I98, e98, hN98, hI98, rfl, rfl⟩
          have nL98 := rdnum_lt hN98
          have hs := hs.mono hG98
          refine .nil ?_
          refine Wt.one 5 (by kernel_rfl) ?_
          refine bCe ([.int .u8 (IntKind.u8.wrap (n83 : Int)), .int .u64 (n98 : Int)]) rfl .no Fx.bp51_0_1 (.cons (.u rfl) rfl (.cons (.u rfl) rfl .nil)) rfl (rfl) ?_
          refine .nil ?_
          refine Wt.b1 6 (by kernel_rfl) ?_
          refine Go.Tan.b1 rfl Fx.se30 Fx.zv51 (.u rfl) rfl rfl (by decide) ?_; intro b100
          refine .nil ?_
          refine Wt.b1 7 (by kernel_rfl) ?_
          refine apS ((⟨IntKind.u8.wrap (n83 : Int), (n98 : Int)⟩ : Gone)) rfl Fx.se30 Fx.zv51 rfl (.u rfl) (.u rfl) (.there (.there .here)) .here (rfl) (gones1) (by have := hbd4 c3.2; omega) (by have := hbd4 c3.2; unfold maxLen; omega) ?_; intro v101 ov101
          refine .nil ?_
          refine Wt.one 8 (by kernel_rfl) ?_
          refine fz rfl .no Fx.fo32_6 (.u rfl) ?_
          refine .nil ?_
          refine Wt.b1 9 (by kernel_rfl) ?_
          refine s1v rfl (.u rfl) (.u rfl) .here Fx.sz30 (.there (.there (.there .here))) (by first | decide | (simp only [List.length_append, nine_len, List.length_cons, List.length_nil]; omega)) (nine_sd) ?_
          refine .nil ?_
          refine Wt.last (by kernel_rfl) ?_
          refine .blk ?_
          refine .code ?_
          refine Wk.rg [0, 1, 2] rfl rfl ?_
          refine mv rfl .no (.u rfl) ?_
          refine ar rfl .no (.u rfl) (.u rfl) rfl (fun _ => wrap_u64 (by omega) (by omega)) ?_
          refine asg rfl .no (.u rfl) ?_
          refine .nil ?_
          refine We.lpo (q - 1, v101, I98, e98, !(k83 && (e83 == 0)), dr ++ [⟨IntKind.u8.wrap (n83 : Int), (n98 : Int)⟩]) ?_ ?_ ?_ ?_ ?_
          · exact (ESub.cons rfl (evi (by omega)) (ESub.cons rfl (congrArg Value.bool (Bool.not_not _).symm) (ESub.cons rfl rfl (ESub.cons rfl rfl (ESub.cons rfl rfl ESub.nil)))))
          · exact (MSub.cons (.there (.there (.there .here))) rfl (MSub.cons (.there .here) rfl (MSub.cons .here rfl (MSub.cons (.there .here) rfl (MSub.cons (.there .here) rfl MSub.nil)))))
          · first | omega | (dsimp only; omega)
          · exact ((hGl2).trans hG83).trans hG98
          · refine ⟨?_, ?_, ?_, ?_⟩
            · (try dsimp only) <;> (rw [List.length_append]; show _ + (_ + 1) = _; omega)
            · (try dsimp only) <;> (exact hR4.step (by omega) (fun α O k h => goneT hN83 (by rw [ek83]; exact flag_g) w_u8 hN98 α O k (by rw [c3.2] at h; exact h)))
            · (try dsimp only) <;> (exact fun _ => hbd4 c3.2)
            · (try dsimp only) <;> (first | omega | rfl | assumption | (simp; done))
        · refine ka rfl (.inl rfl) Fx.go40 (Eva.cons (.u rfl) Eva.nil) (mtk1 .here) (qNum_ok xs I83 e83 h b15 _ hs hI83 hl) ?_
          rintro _ G98 μ98 hG98 ⟨n98, I98, e98, hN98, hI98, rfl, rfl⟩
          have nL98 := rdnum_lt hN98
          have hs := hs.mono hG98
          refine .nil ?_
          refine Wt.one 1 (by kernel_rfl) ?_
          refine ld rfl .no Fx.ag30 (.u rfl) (fun _ => Rd.own (.there (.there .here)) nine_d) ?_
          refine .nil ?_
          refine Wt.one 5 (by kernel_rfl) ?_
          refine bCe ([.int .u8 (IntKind.u8.wrap (n83 : Int)), .int .u64 (n98 : Int)]) rfl .no Fx.bp51_0_1 (.cons (.u rfl) rfl (.cons (.u rfl) rfl .nil)) rfl (rfl) ?_
          refine .nil ?_
          refine Wt.b1 6 (by kernel_rfl) ?_
          refine Go.Tan.b1 rfl Fx.se30 Fx.zv51 (.u rfl) rfl rfl (by decide) ?_; intro b100
          refine .nil ?_
          refine Wt.b1 7 (by kernel_rfl) ?_
          refine apS ((⟨IntKind.u8.wrap (n83 : Int), (n98 : Int)⟩ : Gone)) rfl Fx.se30 Fx.zv51 rfl (.u rfl) (.u rfl) (.there (.there .here)) .here (rfl) (gones1) (by have := hbd4 c3.2; omega) (by have := hbd4 c3.2; unfold maxLen; omega) ?_; intro v101 ov101
          refine .nil ?_
          refine Wt.one 8 (by kernel_rfl) ?_
          refine fz rfl .no Fx.fo32_6 (.u rfl) ?_
          refine .nil ?_
          refine Wt.b1 9 (by kernel_rfl) ?_
          refine s1v rfl (.u rfl) (.u rfl) .here Fx.sz30 (.there (.there (.there .here))) (by first | decide | (simp only [List.length_append, nine_len, List.length_cons, List.length_nil]; omega)) (nine_sd) ?_
          refine .nil ?_
          refine Wt.last (by kernel_rfl) ?_
          refine .blk ?_
          refine .code ?_
          refine Wk.rg [0, 1, 2] rfl rfl ?_
          refine mv rfl .no (.u rfl) ?_
          refine ar rfl .no (.u rfl) (.u rfl) rfl (fun _ => wrap_u64 (by omega) (by omega)) ?_
          refine asg rfl .no (.u rfl) ?_
          refine .nil ?_
          refine We.lpo (q - 1, v101, I98, e98, !(k83 && (e83 == 0)), dr ++ [⟨IntKind.u8.wrap (n83 : Int), (n98 : Int)⟩]) ?_ ?_ ?_ ?_ ?_
          · exact (ESub.cons rfl (evi (by omega)) (ESub.cons rfl (congrArg Value.bool (Bool.not_not _).symm) (ESub.cons rfl rfl (ESub.cons rfl rfl (ESub.cons rfl rfl ESub.nil)))))
          · exact (MSub.cons (.there (.there (.there .here))) rfl (MSub.cons (.there .here) rfl (MSub.cons .here rfl (MSub.cons (.there .here) rfl (MSub.cons (.there .here) rfl MSub.nil)))))
          · first | omega | (dsimp only; omega)
          · exact ((hGl2).trans hG83).trans hG98
          · refine ⟨?_, ?_, ?_, ?_⟩
            · (try dsimp only) <;> (rw [List.length_append]; show _ + (_ + 1) = _; omega)
            · (try dsimp only) <;> (exact hR4.step (by omega) (fun α O k h => goneT hN83 (by rw [ek83]; exact flag_g) w_u8 hN98 α O k (by rw [c3.2] at h; exact h)))
            · (try dsimp only) <;> (exact fun _ => hbd4 c3.2)
            · (try dsimp only) <;> (first | omega | rfl | assumption | (simp; done))
      · have c3k := c3
        try simp only [decide_eq_true_eq, decide_eq_false_iff_not, Int.not_lt, Int.not_le, gt_iff_lt, ge_iff_le, Bool.or_eq_true, Bool.and_eq_true, Bool.or_eq_false_iff, Bool.and_eq_false_iff, Bool.not_eq_true', Bool.not_eq_false', Int.toNat_natCast, bne_iff_ne, beq_iff_eq, bne_eq_false_iff_eq, beq_eq_false_iff_ne, ne_eq] at c3
        refine .exit ?_
        refine .xcode ?_
        refine .xlp ?_
        refine .xblk ?_
        refine .code ?_
        refine .seq ?_
        refine .seq ?_
        have hT4 := dec_e hT3 hR4 hn4 (by first | exact c3.imp (fun h => by omega) (fun h => by simpa using h) | (rcases c3 with h1 | h1; (exact .inl (by omega)); (exact .inr (by simpa using h1))))
        refine Wk.rg [0, 1, 2, 3, 4, 5, 6] rfl rfl ?_
        refine mv rfl .no (.u rfl) ?_
        refine nt rfl .no (.u rfl) ?_
        refine mv rfl .no (.u rfl) ?_
        refine mv rfl (.f rfl rfl) (.u rfl) ?_
        refine kp rfl (.f rfl rfl) Fx.go43 (Eva.cons (.s rfl) Eva.nil) (Gp.add .here Gp.nil) (fun hc hle hq => qEnd_ok xs I4 e4 h b15 _ RdNP.add) ?_
        refine cp rfl (.f rfl rfl) (.s rfl) (.u rfl) rfl ?_
        refine pkO rfl .no (.u rfl) (.s rfl) ?_
        refine .nil ?_
        refine .code ?_
        refine .cond rfl (fun c4 => ?_) (fun c4 => ?_)
        · have c4k := c4
          try simp only [decide_eq_true_eq, decide_eq_false_iff_not, Int.not_lt, Int.not_le, gt_iff_lt, ge_iff_le, Bool.or_eq_true, Bool.and_eq_true, Bool.or_eq_false_iff, Bool.and_eq_false_iff, Bool.not_eq_true', Bool.not_eq_false', Int.toNat_natCast, bne_iff_ne, beq_iff_eq, bne_eq_false_iff_eq, beq_eq_false_iff_ne, ne_eq] at c4
          refine .seq ?_
          refine Wk.rg [0, 1, 2] rfl rfl ?_
          refine bC rfl .no Fx.bp32_ .nil rfl ?_
          refine sw rfl (.u rfl) (.u rfl) rfl Fx.sz32 (.there (.there (.there (.there .here)))) (by first | exact nine2_len | exact nine2_len.trans nine2_len.symm | rfl) (nine_one rfl rfl) ?_
          refine asg rfl .no (.u rfl) ?_
          refine .nil ?_
          refine .code ?_
          refine .ret ?_
          refine We.fin0 Try.results16 (.cell rfl (fun w hw => run_loadVarN Fx.ag32 (RdN.own .here) ((by first | exact nine2_len | exact nine2_len.trans nine2_len.symm | rfl)) hw) (.tmp rfl .nil)) ?_
          exact ⟨Edit.zero, 180, ⟨none, 0⟩, ⟨none, 0⟩, .inr ⟨dec_no hT4 (by simpa using c4k), rfl, rfl⟩, rfl, rfl, EdR.zero⟩
        · have c4k := c4
          try simp only [decide_eq_true_eq, decide_eq_false_iff_not, Int.not_lt, Int.not_le, gt_iff_lt, ge_iff_le, Bool.or_eq_true, Bool.and_eq_true, Bool.or_eq_false_iff, Bool.and_eq_false_iff, Bool.not_eq_true', Bool.not_eq_false', Int.toNat_natCast, bne_iff_ne, beq_iff_eq, bne_eq_false_iff_eq, beq_eq_false_iff_ne, ne_eq] at c4
          refine .skip ?_
          refine .code ?_
          refine .seq ?_
          refine wk_fs (.there (.there (.there .here))) (fun _ _ => rfl) (by intro b hb; cases hb) ?_; intro GfRA hRA hleRA evRA hsRA; subst evRA
          have hs := hs.mono hleRA
          refine wk_fs (.there .here) (fun _ _ => rfl) (by intro b hb; cases hb) ?_; intro GfRD hRD hleRD evRD hsRD; subst evRD
          have hs := hs.mono hleRD
          have hsRA := hsRA.mono hleRD
          refine Wk.rg [0, 1, 2] rfl rfl ?_
          refine lA rfl .no Fx.ag32 (.u rfl) (fun _ => RdN.own (.there .here)) (fun _ => (by first | exact nine2_len | exact nine2_len.trans nine2_len.symm | rfl)) ?_
          refine sw rfl (.u rfl) (.u rfl) rfl Fx.sz32 (.there (.there .here)) (by first | exact nine2_len | exact nine2_len.trans nine2_len.symm | rfl) (nine_one rfl rfl) ?_
          refine asg rfl .no (.u rfl) ?_
          refine .nil ?_
          refine .code ?_
          refine .ret ?_
          refine We.fin0 Try.results16 (.cell rfl (fun w hw => run_loadVarN Fx.ag32 (RdN.own .here) ((by first | exact nine2_len | exact nine2_len.trans nine2_len.symm | rfl)) hw) (.tmp rfl .nil)) ?_
          have h9 := c4k
          simp at h9
          have hO := dec_yes hT4 h9.1 h9.2
          exact ⟨_, 0, hRA, hRD, .inl ⟨hO, rfl⟩, rfl, by rw [Edit.val, ← edE_cells eg2]; rfl, ⟨hsRA, hsRD, (edit_inv hO).2.1⟩⟩

end Go.Proofs.Ytnhdaaggkdegpaa

namespace Go.Proofs.Ytnhdaaggkdegpaa
set_option linter.unusedSimpArgs false
set_option linter.unusedVariables false
open Go.Tan Go.RowKit

namespace Fx
theorem ag25 : aggN Try.prog 25 = some (some 5) := by kernel_rfl
theorem go51 : goFn Try.prog 51 = true := by kernel_rfl
theorem zr27 : zrL Try.prog 27 = some ((State.zero.cells hd0)) := by kernel_rfl
theorem go12 : goFn Try.prog 12 = true := by kernel_rfl
theorem go48 : goFn Try.prog 48 = true := by kernel_rfl
theorem bp27_1_2_3_4_5_0 : bPl Try.prog 27 [1, 2, 3, 4, 5, 0] = some ((State.zero.cells hd0), [(5, 1), (6, 1), (7, 1), (8, 1), (9, 5), (0, 5)]) := by kernel_rfl
theorem sz27 : szT Try.prog 27 = some 14 := by kernel_rfl
theorem go49 : goFn Try.prog 49 = true := by kernel_rfl
theorem go50 : goFn Try.prog 50 = true := by kernel_rfl
theorem bp27_ : bPl Try.prog 27 [] = some ((State.zero.cells hd0), []) := by kernel_rfl
end Fx
theorem before_ok (s : State) (hd : Nat → Sh) (G : PM) (e : Edit) (ha he : Sh) : Ct Try.prog 48 ([s.val hd, e.val ha he] : List Value).toArray G [] (fun _ μ' u => μ' = [] ∧ u = .bool (beforeB s e)) := by
  refine Ct.of Try.func48 rfl Try.ntmps48 rfl fun w0 hs0 => ?_
  refine .seq ?_
  refine Wk.rg [0, 1, 2] rfl rfl ?_
  refine bx rfl (.u rfl) rfl ?_; intro b2
  refine bx rfl (.u rfl) rfl ?_; intro b3
  refine asg rfl .no (.u rfl) ?_
  refine .nil ?_
  refine .code ?_
  refine .seq ?_
  refine .seq ?_
  refine Wk.rg [0, 1, 2] rfl rfl ?_
  refine fz rfl .no Fx.fo32_4 (.u rfl) ?_
  refine lA rfl .no Fx.ag25 (.u rfl) (fun _ => RdN.part (n := 5) (cs' := (List.range 5).map (fun i => .int .u64 (e.gens i))) .here (rfl)) (fun _ => rfl) ?_
  refine mv rfl .no (.u rfl) ?_
  refine .nil ?_
  refine .code ?_
  refine .block ?_
  refine Wk.lop (α := Nat) (fun k => [(9, true, .int .i64 (k : Int))]) (fun _ => [])
    (fun k Gl => (k ≤ 5) ∧ (∀ i, i < k → ¬ e.gens i < s.gens i)) (fun k => 5 - k) 0 [(2, true, _), (3, true, _), (8, true, _)] [_, _]
    (ESub.cons rfl (by first | rfl | exact evi (by omega)) (ESub.cons rfl rfl (ESub.cons rfl rfl (ESub.cons rfl rfl ESub.nil))))
    (MSub.cons .here rfl (MSub.cons .here rfl MSub.nil)) ?_ ?_
  · refine ⟨?_, ?_⟩
    · (try dsimp only) <;> (first | omega | rfl | assumption | (simp; done))
    · (try dsimp only) <;> (exact fun i hi => by omega)
  intro k N0 Gl0 hN0 hGl0 hF0
  try dsimp only at hF0 hN0 ⊢
  obtain ⟨hk, hn⟩ := hF0
  refine .seq ?_
  refine Wk.rg [0] rfl rfl ?_
  refine cp rfl .no (.u rfl) (.u rfl) rfl ?_
  refine .nil ?_
  refine .code ?_
  refine .seq ?_
  refine .cond rfl (fun c1 => ?_) (fun c1 => ?_)
  · have c1k := c1
    try simp only [decide_eq_true_eq, decide_eq_false_iff_not, Int.not_lt, Int.not_le, gt_iff_lt, ge_iff_le, Bool.or_eq_true, Bool.and_eq_true, Bool.or_eq_false_iff, Bool.not_eq_true', Bool.not_eq_false', Int.toNat_natCast, bne_iff_ne, beq_iff_eq, bne_eq_false_iff_eq, beq_eq_false_iff_ne, ne_eq] at c1
    refine .skip ?_
    refine .code ?_
    refine .seq ?_
    refine .block ?_
    refine .seq ?_
    refine Wk.rg [0, 1, 2, 3] rfl rfl ?_
    refine mv rfl .no (.u rfl) ?_
    refine ix rfl .no Fx.ar25 Fx.ag24 (.u rfl) (.u rfl) (fun _ => by omega) (fun _ => by omega) (fun _ => (gens_at (k := k) (by omega) (by omega))) ?_
    refine asg rfl .no (.u rfl) ?_
    refine asg rfl .no (.u rfl) ?_
    refine .nil ?_
    refine .code ?_
    refine .seq ?_
    refine Wk.rg [0, 1, 2, 3, 4, 5] rfl rfl ?_
    refine mv rfl .no (.u rfl) ?_
    refine mv rfl .no (.u rfl) ?_
    refine fz rfl .no Fx.fo27_5 (.u rfl) ?_
    refine iA rfl .no Fx.ar25 (.u rfl) (.u rfl) (fun _ => by omega) (fun _ => by omega) ?_
    refine ld rfl .no Fx.ag24 (.u rfl) (fun _ => Rd.own (.there .here) (by exact s.cell_gen hd (k := k) (by omega))) ?_
    refine cp rfl .no (.u rfl) (.u rfl) rfl ?_
    refine .nil ?_
    refine .code ?_
    refine .cond rfl (fun c2 => ?_) (fun c2 => ?_)
    · have c2k := c2
      try simp only [decide_eq_true_eq, decide_eq_false_iff_not, Int.not_lt, Int.not_le, gt_iff_lt, ge_iff_le, Bool.or_eq_true, Bool.and_eq_true, Bool.or_eq_false_iff, Bool.not_eq_true', Bool.not_eq_false', Int.toNat_natCast, bne_iff_ne, beq_iff_eq, bne_eq_false_iff_eq, beq_eq_false_iff_ne, ne_eq] at c2
      refine .seq ?_
      refine Wk.rg [0] rfl rfl ?_
      refine asg rfl .no (.u rfl) ?_
      refine .nil ?_
      refine .code ?_
      refine .ret ?_
      refine We.fin0 Try.results48 (.tmp rfl .nil) ?_
      exact ⟨rfl, congrArg Value.bool (bef_yes (i := k) (by omega) (by omega)).symm⟩
    · have c2k := c2
      try simp only [decide_eq_true_eq, decide_eq_false_iff_not, Int.not_lt, Int.not_le, gt_iff_lt, ge_iff_le, Bool.or_eq_true, Bool.and_eq_true, Bool.or_eq_false_iff, Bool.not_eq_true', Bool.not_eq_false', Int.toNat_natCast, bne_iff_ne, beq_iff_eq, bne_eq_false_iff_eq, beq_eq_false_iff_ne, ne_eq] at c2
      refine .skip ?_
      refine .blk ?_
      refine .code ?_
      refine Wk.rg [0, 1] rfl rfl ?_
      refine arn (((k + 1) : Nat) : Int) rfl .no (.u rfl) (.u rfl) rfl (fun _ => by omega) (fun _ => wrap_i64 (by omega) (by omega)) ?_
      refine mv rfl .no (.u rfl) ?_
      refine .nil ?_
      refine We.lpo (k + 1) ?_ ?_ ?_ ?_ ?_
      · exact (ESub.cons rfl (by first | rfl | exact evi (by omega)) (ESub.cons rfl rfl (ESub.cons rfl rfl (ESub.cons rfl rfl ESub.nil))))
      · exact (MSub.cons .here rfl (MSub.cons .here rfl MSub.nil))
      · first | omega | (dsimp only; omega)
      · exact hGl0
      · refine ⟨?_, ?_⟩
        · (try dsimp only) <;> (first | omega | rfl | assumption | (simp; done))
        · (try dsimp only) <;> (exact fun i hi => by (by_cases h : i = k; (subst h; omega); exact hn i (by omega)))
  · have c1k := c1
    try simp only [decide_eq_true_eq, decide_eq_false_iff_not, Int.not_lt, Int.not_le, gt_iff_lt, ge_iff_le, Bool.or_eq_true, Bool.and_eq_true, Bool.or_eq_false_iff, Bool.not_eq_true', Bool.not_eq_false', Int.toNat_natCast, bne_iff_ne, beq_iff_eq, bne_eq_false_iff_eq, beq_eq_false_iff_ne, ne_eq] at c1
    refine .exit ?_
    refine .xcode ?_
    refine .xlp ?_
    refine .xblk ?_
    refine .code ?_
    refine .seq ?_
    refine Wk.rg [0, 1, 2, 3, 4, 5, 6, 7, 8, 9, 10, 11, 12, 13, 14, 15, 16, 17, 18, 19, 20, 21, 22, 23, 24, 25, 26] rfl rfl ?_
    refine fz rfl .no Fx.fo32_0 (.u rfl) ?_
    refine ld rfl .no Fx.ag24 (.u rfl) (fun _ => Rd.own .here (by first | exact wap_f rfl | rfl)) ?_
    refine fz rfl .no Fx.fo27_1 (.u rfl) ?_
    refine ld rfl .no Fx.ag24 (.u rfl) (fun _ => Rd.own (.there .here) (by first | exact wap_f rfl | rfl)) ?_
    refine cp rfl .no (.u rfl) (.u rfl) rfl ?_
    refine mv rfl .no (.u rfl) ?_
    refine fz rfl (.f rfl rfl) Fx.fo32_1 (.u rfl) ?_
    refine ld rfl (.f rfl rfl) Fx.ag24 (.s rfl) (fun hc => Rd.own .here (by first | exact wap_f rfl | rfl)) ?_
    refine fz rfl (.f rfl rfl) Fx.fo27_2 (.u rfl) ?_
    refine ld rfl (.f rfl rfl) Fx.ag24 (.s rfl) (fun hc => Rd.own (.there .here) (by first | exact wap_f rfl | rfl)) ?_
    refine cp rfl (.f rfl rfl) (.s rfl) (.s rfl) rfl ?_
    refine pkO rfl .no (.u rfl) (.s rfl) ?_
    refine mv rfl .no (.u rfl) ?_
    refine fz rfl (.f rfl rfl) Fx.fo32_2 (.u rfl) ?_
    refine ld rfl (.f rfl rfl) Fx.ag24 (.s rfl) (fun hc => Rd.own .here (by first | exact wap_f rfl | rfl)) ?_
    refine fz rfl (.f rfl rfl) Fx.fo27_3 (.u rfl) ?_
    refine ld rfl (.f rfl rfl) Fx.ag24 (.s rfl) (fun hc => Rd.own (.there .here) (by first | exact wap_f rfl | rfl)) ?_
    refine cp rfl (.f rfl rfl) (.s rfl) (.s rfl) rfl ?_
    refine pkO rfl .no (.u rfl) (.s rfl) ?_
    refine mv rfl .no (.u rfl) ?_
    refine fz rfl (.f rfl rfl) Fx.fo32_3 (.u rfl) ?_
    refine ld rfl (.f rfl rfl) Fx.ag24 (.s rfl) (fun hc => Rd.own .here (by first | exact wap_f rfl | rfl)) ?_
    refine fz rfl (.f rfl rfl) Fx.fo27_4 (.u rfl) ?_
    refine ld rfl (.f rfl rfl) Fx.ag24 (.s rfl) (fun hc => Rd.own (.there .here) (by first | exact wap_f rfl | rfl)) ?_
    refine cp rfl (.f rfl rfl) (.s rfl) (.s rfl) rfl ?_
    refine pkO rfl .no (.u rfl) (.s rfl) ?_
    refine asg rfl .no (.u rfl) ?_
    refine .nil ?_
    refine .code ?_
    refine .ret ?_
    refine We.fin0 Try.results48 (.tmp rfl .nil) ?_
    exact ⟨rfl, congrArg Value.bool (bef_no (fun i hi => hn i (by omega))).symm⟩

theorem clone0_ok (G : PM) : Ct Try.prog 49 ([.slice none 0 0] : List Value).toArray G [] (fun _ μ' u => μ' = [] ∧ u = .slice none 0 0) := by
  refine Ct.of Try.func49 rfl Try.ntmps49 rfl fun w0 hs0 => ?_
  refine .seq ?_
  refine Wk.rg [0] rfl rfl ?_
  refine asg rfl .no (.u rfl) ?_
  refine .nil ?_
  refine .code ?_
  refine .seq ?_
  refine .seq ?_
  refine Wk.rg [0, 1] rfl rfl ?_
  refine mv rfl .no (.u rfl) ?_
  refine sn0 (s := ⟨none, 0⟩) (m := 0) rfl .no Fx.sn22 (.u rfl) (.u rfl) ?_
  refine .nil ?_
  refine .code ?_
  refine .cond rfl (fun c1 => ?_) (fun c1 => ?_)
  · have c1k := c1
    try simp only [decide_eq_true_eq, decide_eq_false_iff_not, Int.not_lt, Int.not_le, gt_iff_lt, ge_iff_le, Bool.or_eq_true, Bool.and_eq_true, Bool.or_eq_false_iff, Bool.not_eq_true', Bool.not_eq_false', Int.toNat_natCast, bne_iff_ne, beq_iff_eq, bne_eq_false_iff_eq, beq_eq_false_iff_ne, ne_eq] at c1
    refine .seq ?_
    refine Wk.rg [0] rfl rfl ?_
    refine asg rfl .no (.u rfl) ?_
    refine .nil ?_
    refine .code ?_
    refine .ret ?_
    refine We.fin0 Try.results49 (.tmp rfl .nil) ?_
    exact ⟨rfl, rfl⟩
  · have c1k := c1
    cases c1

set_option maxHeartbeats 1000000 in
theorem apply0_ok (h : Sh) (G : PM) (hs : SlR G 2 Gone.cells h [Gone.zero]) : Ct Try.prog 20 ([State.zero.val hd0, edit1.val ⟨none, 0⟩ h] : List Value).toArray G [] (fun _ μ' u => μ' = [] ∧ u = .tuple #[State.zero.val hd0, .int .i64 180]) := by
  refine Ct.of Try.func20 rfl Try.ntmps20 rfl fun w0 hs0 => ?_
  have ea : edit1.add.length = 0 := rfl; have ed : edit1.drop.length = 1 := rfl; have ez : Gone.zero.level = 0 := rfl
  refine .seq ?_
  refine Wk.rg [0, 1, 2, 3] rfl rfl ?_
  refine bx rfl (.u rfl) rfl ?_; intro b2
  refine bx rfl (.u rfl) rfl ?_; intro b3
  refine al rfl Fx.zr27 ?_; intro b4
  refine asg rfl .no (.u rfl) ?_
  refine .nil ?_
  refine .code ?_
  refine .seq ?_
  refine .seq ?_
  refine Wk.rg [0, 1, 2] rfl rfl ?_
  refine lA rfl .no Fx.ag27 (.u rfl) (fun _ => RdN.own (.there (.there .here))) (fun _ => (by first | exact State.len | exact State.len.trans State.len.symm | exact Edit.len | exact Edit.len.trans Edit.len.symm | exact nine2_len | exact nine2_len.trans State.len.symm | rfl)) ?_
  refine kv rfl .no Fx.go12 (Eva.cons (.u rfl) Eva.nil) (fun _ => vRight_ok State.zero hd0 _ st_zero) ?_
  refine nt rfl .no (.u rfl) ?_
  refine .nil ?_
  refine .code ?_
  refine .cond rfl (fun c1 => ?_) (fun c1 => ?_)
  · have c1k := c1
    rw [right_zero] at c1; cases c1
  · have c1k := c1
    try simp only [decide_eq_true_eq, decide_eq_false_iff_not, Int.not_lt, Int.not_le, gt_iff_lt, ge_iff_le, Bool.or_eq_true, Bool.and_eq_true, Bool.or_eq_false_iff, Bool.not_eq_true', Bool.not_eq_false', Int.toNat_natCast, bne_iff_ne, beq_iff_eq, bne_eq_false_iff_eq, beq_eq_false_iff_ne, ne_eq] at c1
    refine .skip ?_
    refine .code ?_
    refine .seq ?_
    refine .seq ?_
    refine Wk.rg [0, 1, 2, 3, 4, 5, 6, 7, 8, 9, 10, 11, 12, 13, 14] rfl rfl ?_
    refine fz rfl .no Fx.fo32_5 (.u rfl) ?_
    refine ld rfl .no Fx.ag22 (.u rfl) (fun _ => Rd.own (.there .here) rfl) ?_
    refine ln rfl .no Fx.sn22 (.u rfl) ?_
    refine cp rfl .no (.u rfl) (.u rfl) rfl ?_
    refine mv rfl .no (.u rfl) ?_
    refine fz rfl (.f rfl rfl) Fx.fo32_6 (.u rfl) ?_
    refine ld rfl (.f rfl rfl) Fx.ag30 (.s rfl) (fun hc => Rd.own (.there .here) rfl) ?_
    refine ln rfl (.f rfl rfl) Fx.sn30 (.s rfl) ?_
    refine cp rfl (.f rfl rfl) (.s rfl) (.u rfl) rfl ?_
    refine pkO rfl .no (.u rfl) (.s rfl) ?_
    refine mv rfl .no (.u rfl) ?_
    refine lA rfl (.f rfl rfl) Fx.ag27 (.u rfl) (fun _ => RdN.own (.there (.there .here))) (fun _ => (by first | exact State.len | exact State.len.trans State.len.symm | exact Edit.len | exact Edit.len.trans Edit.len.symm | exact nine2_len | exact nine2_len.trans State.len.symm | rfl)) ?_
    refine lA rfl (.f rfl rfl) Fx.ag32 (.u rfl) (fun _ => RdN.own (.there .here)) (fun _ => (by first | exact State.len | exact State.len.trans State.len.symm | exact Edit.len | exact Edit.len.trans Edit.len.symm | exact nine2_len | exact nine2_len.trans State.len.symm | rfl)) ?_
    refine kv rfl (.f rfl rfl) Fx.go48 (Eva.cons (.s rfl) (Eva.cons (.s rfl) Eva.nil)) (fun hc => before_ok State.zero hd0 _ edit1 ⟨none, 0⟩ h) ?_
    refine pkO rfl .no (.u rfl) (.s rfl) ?_
    refine .nil ?_
    refine .code ?_
    refine .cond rfl (fun c2 => ?_) (fun c2 => ?_)
    · have c2k := c2
      cases c2
    · have c2k := c2
      try simp only [decide_eq_true_eq, decide_eq_false_iff_not, Int.not_lt, Int.not_le, gt_iff_lt, ge_iff_le, Bool.or_eq_true, Bool.and_eq_true, Bool.or_eq_false_iff, Bool.not_eq_true', Bool.not_eq_false', Int.toNat_natCast, bne_iff_ne, beq_iff_eq, bne_eq_false_iff_eq, beq_eq_false_iff_ne, ne_eq] at c2
      refine .skip ?_
      refine .code ?_
      refine .seq ?_
      refine Wk.rg [0, 1, 2, 3, 4, 5, 6, 7, 8, 9, 10, 11, 12, 13, 14] rfl rfl ?_
      refine fz rfl .no Fx.fo32_0 (.u rfl) ?_
      refine ld rfl .no Fx.ag24 (.u rfl) (fun _ => Rd.own (.there .here) (by first | exact wap_f rfl | rfl)) ?_
      refine fz rfl .no Fx.fo32_1 (.u rfl) ?_
      refine ld rfl .no Fx.ag24 (.u rfl) (fun _ => Rd.own (.there .here) (by first | exact wap_f rfl | rfl)) ?_
      refine fz rfl .no Fx.fo32_2 (.u rfl) ?_
      refine ld rfl .no Fx.ag24 (.u rfl) (fun _ => Rd.own (.there .here) (by first | exact wap_f rfl | rfl)) ?_
      refine fz rfl .no Fx.fo32_3 (.u rfl) ?_
      refine ld rfl .no Fx.ag24 (.u rfl) (fun _ => Rd.own (.there .here) (by first | exact wap_f rfl | rfl)) ?_
      refine fz rfl .no Fx.fo32_4 (.u rfl) ?_
      refine lA rfl .no Fx.ag25 (.u rfl) (fun _ => RdN.part (n := 5) (cs' := (List.range 5).map (fun _ => .int .u64 0)) (.there .here) (rfl)) (fun _ => rfl) ?_
      refine fz rfl .no Fx.fo27_0 (.u rfl) ?_
      refine lA rfl .no Fx.ag23 (.u rfl) (fun _ => RdN.part (n := 5) (cs' := (List.range 5).map (fun _ => .slice none 0 0)) (.there (.there .here)) (rfl)) (fun _ => rfl) ?_
      refine bCe (State.zero.cells hd0) rfl .no Fx.bp27_1_2_3_4_5_0 (.cons (.u rfl) rfl (.cons (.u rfl) rfl (.cons (.u rfl) rfl (.cons (.u rfl) rfl (.cons (.u rfl) rfl (.cons (.u rfl) rfl .nil)))))) rfl (rfl) ?_
      refine al rfl Fx.zr27 ?_; intro b6
      refine sw rfl (.u rfl) (.u rfl) rfl Fx.sz27 .here (by first | exact State.len | exact State.len.trans State.len.symm | exact Edit.len | exact Edit.len.trans Edit.len.symm | exact nine2_len | exact nine2_len.trans State.len.symm | rfl) (State.one') ?_
      refine .nil ?_
      refine .code ?_
      refine .seq ?_
      refine .seq ?_
      refine Wk.rg [0] rfl rfl ?_
      refine mv rfl .no (.u rfl) ?_
      refine .nil ?_
      refine .code ?_
      refine .block ?_
      refine Wk.lop (α := Nat) (fun k => [(49, true, .int .i64 (k : Int))]) (fun k => [.blk b6 (cl (State.zero.cells hd0) 27)])
        (fun k Gl => (k ≤ 5)) (fun k => 5 - k) 0 [(3, true, _), (4, true, _), (6, true, _)] [_, _, _]
        (ESub.cons rfl (by first | rfl | exact evi (by omega)) (ESub.cons rfl rfl (ESub.cons rfl rfl (ESub.cons rfl rfl ESub.nil))))
        (MSub.cons .here rfl (MSub.cons .here rfl (MSub.cons .here rfl (MSub.cons .here rfl MSub.nil)))) ?_ ?_
      · (try dsimp only) <;> (first | omega | rfl | assumption | (simp; done))
      intro k N0 Gl0 hN0 hGl0 hF0
      try dsimp only at hF0 hN0 ⊢
      have hk := hF0
      have hs := hs.mono hGl0
      refine .seq ?_
      refine Wk.rg [0] rfl rfl ?_
      refine cp rfl .no (.u rfl) (.u rfl) rfl ?_
      refine .nil ?_
      refine .code ?_
      refine .seq ?_
      refine .cond rfl (fun c3 => ?_) (fun c3 => ?_)
      · have c3k := c3
        try simp only [decide_eq_true_eq, decide_eq_false_iff_not, Int.not_lt, Int.not_le, gt_iff_lt, ge_iff_le, Bool.or_eq_true, Bool.and_eq_true, Bool.or_eq_false_iff, Bool.not_eq_true', Bool.not_eq_false', Int.toNat_natCast, bne_iff_ne, beq_iff_eq, bne_eq_false_iff_eq, beq_eq_false_iff_ne, ne_eq] at c3
        refine .skip ?_
        refine .code ?_
        refine .seq ?_
        refine .block ?_
        refine .seq ?_
        refine Wk.rg [0, 1] rfl rfl ?_
        refine mv rfl .no (.u rfl) ?_
        refine asg rfl .no (.u rfl) ?_
        refine .nil ?_
        refine .code ?_
        refine Wk.rg [0, 1, 2, 3, 4, 5, 6, 7, 8] rfl rfl ?_
        refine mv rfl .no (.u rfl) ?_
        refine mv rfl .no (.u rfl) ?_
        refine fz rfl .no Fx.fo27_0 (.u rfl) ?_
        refine iA rfl .no Fx.ar23 (.u rfl) (.u rfl) (fun _ => by omega) (fun _ => by omega) ?_
        refine ld (v := .slice none 0 0) rfl .no Fx.ag22 (.u rfl) (fun _ => Rd.own .here (zero_at (by omega))) ?_
        refine kv rfl .no Fx.go49 (Eva.cons (.u rfl) Eva.nil) (fun _ => clone0_ok _) ?_
        refine fz rfl .no Fx.fo27_0 (.u rfl) ?_
        refine iA rfl .no Fx.ar23 (.u rfl) (.u rfl) (fun _ => by omega) (fun _ => by omega) ?_
        refine s1 rfl (.u rfl) (.u rfl) rfl Fx.sz22 .here (by show _ < 14; omega) (zero_set (by omega)) ?_
        refine .nil ?_
        refine .blk ?_
        refine .code ?_
        refine Wk.rg [0, 1] rfl rfl ?_
        refine arn (((k + 1) : Nat) : Int) rfl .no (.u rfl) (.u rfl) rfl (fun _ => by omega) (fun _ => wrap_i64 (by omega) (by omega)) ?_
        refine mv rfl .no (.u rfl) ?_
        refine .nil ?_
        refine We.lpo (k + 1) ?_ ?_ ?_ ?_ ?_
        · exact (ESub.cons rfl (by first | rfl | exact evi (by omega)) (ESub.cons rfl rfl (ESub.cons rfl rfl (ESub.cons rfl rfl ESub.nil))))
        · exact (MSub.cons .here rfl (MSub.cons .here rfl (MSub.cons .here rfl (MSub.cons .here rfl MSub.nil))))
        · first | omega | (dsimp only; omega)
        · exact hGl0
        · (try dsimp only) <;> (first | omega | rfl | assumption | (simp; done))
      · have c3k := c3
        try simp only [decide_eq_true_eq, decide_eq_false_iff_not, Int.not_lt, Int.not_le, gt_iff_lt, ge_iff_le, Bool.or_eq_true, Bool.and_eq_true, Bool.or_eq_false_iff, Bool.not_eq_true', Bool.not_eq_false', Int.toNat_natCast, bne_iff_ne, beq_iff_eq, bne_eq_false_iff_eq, beq_eq_false_iff_ne, ne_eq] at c3
        refine .exit ?_
        refine .xcode ?_
        refine .xlp ?_
        refine .xblk ?_
        refine .code ?_
        refine .seq ?_
        refine .seq ?_
        refine Wk.rg [0, 1, 2, 3] rfl rfl ?_
        refine fz rfl .no Fx.fo32_6 (.u rfl) ?_
        refine ld rfl .no Fx.ag30 (.u rfl) (fun _ => Rd.own (.there (.there .here)) (by first | exact wap_f rfl | rfl)) ?_
        refine ln rfl .no Fx.sn30 (.u rfl) ?_
        refine mv rfl .no (.u rfl) ?_
        refine .nil ?_
        refine .code ?_
        refine .block ?_
        refine Wk.lop (α := Nat) (fun j => [(64, true, .int .i64 (j : Int))]) (fun _ => [])
          (fun j Gl => (j = 0)) (fun j => 1 - j) 0 [(3, true, _), (4, true, _), (6, true, _), (62, true, _), (63, true, _)] [_, _, _, _]
          (ESub.cons rfl (by first | rfl | exact evi (by omega)) (ESub.cons rfl rfl (ESub.cons rfl rfl (ESub.cons rfl rfl (ESub.cons rfl rfl (ESub.cons rfl rfl ESub.nil))))))
          (MSub.cons .here rfl (MSub.cons .here rfl (MSub.cons .here rfl (MSub.cons .here rfl MSub.nil)))) ?_ ?_
        · (try dsimp only) <;> (first | omega | rfl | assumption | (simp; done))
        intro j N1 Gl1 hN1 hGl1 hF1
        try dsimp only at hF1 hN1 ⊢
        have hj := hF1
        have hs := hs.mono hGl1
        refine .seq ?_
        refine Wk.rg [0] rfl rfl ?_
        refine cp rfl .no (.u rfl) (.u rfl) rfl ?_
        refine .nil ?_
        refine .code ?_
        refine .seq ?_
        refine .cond rfl (fun c4 => ?_) (fun c4 => ?_)
        · have c4k := c4
          try simp only [decide_eq_true_eq, decide_eq_false_iff_not, Int.not_lt, Int.not_le, gt_iff_lt, ge_iff_le, Bool.or_eq_true, Bool.and_eq_true, Bool.or_eq_false_iff, Bool.not_eq_true', Bool.not_eq_false', Int.toNat_natCast, bne_iff_ne, beq_iff_eq, bne_eq_false_iff_eq, beq_eq_false_iff_ne, ne_eq] at c4
          refine .skip ?_
          refine .code ?_
          refine .seq ?_
          refine .block ?_
          refine .seq ?_
          refine Wk.rg [0, 1, 2, 3] rfl rfl ?_
          refine ih rfl .no Fx.se30 (.u rfl) (.u rfl) (fun _ => by omega) (fun _ => by omega) (fun _ => hs.nn (k := j) (by first | omega | (simp only [List.length_cons, List.length_nil]; omega))) ?_
          refine lA rfl .no Fx.ag51 (.u rfl) (fun _ => (hs.at (k := 0) (x := Gone.zero) (by omega) rfl).rd) (fun _ => rfl) ?_
          refine al rfl Fx.zr51 ?_; intro b9
          refine sw rfl (.u rfl) (.u rfl) rfl Fx.sz51 .here rfl (gones1) ?_
          refine .nil ?_
          refine .code ?_
          refine .seq ?_
          refine .seq ?_
          refine Wk.rg [0, 1, 2] rfl rfl ?_
          refine fz rfl .no Fx.fo51_0 (.u rfl) ?_
          refine ld rfl .no Fx.ag5 (.u rfl) (fun _ => Rd.own .here (by first | exact wap_f rfl | rfl)) ?_
          refine cp rfl .no (.u rfl) (.u rfl) rfl ?_
          refine .nil ?_
          refine .code ?_
          refine .cond rfl (fun c5 => ?_) (fun c5 => ?_)
          · have c5k := c5
            cases c5
          · have c5k := c5
            try simp only [decide_eq_true_eq, decide_eq_false_iff_not, Int.not_lt, Int.not_le, gt_iff_lt, ge_iff_le, Bool.or_eq_true, Bool.and_eq_true, Bool.or_eq_false_iff, Bool.not_eq_true', Bool.not_eq_false', Int.toNat_natCast, bne_iff_ne, beq_iff_eq, bne_eq_false_iff_eq, beq_eq_false_iff_ne, ne_eq] at c5
            refine .skip ?_
            refine .code ?_
            refine .seq ?_
            refine Wk.rg [0, 1, 2, 3, 4] rfl rfl ?_
            refine fz rfl .no Fx.fo51_0 (.u rfl) ?_
            refine ld rfl .no Fx.ag5 (.u rfl) (fun _ => Rd.own .here (by first | exact wap_f rfl | rfl)) ?_
            refine fz rfl .no Fx.fo27_0 (.u rfl) ?_
            refine iA rfl .no Fx.ar23 (.u rfl) (.u rfl) (fun _ => by omega) (fun _ => by omega) ?_
            refine asg rfl .no (.u rfl) ?_
            refine .nil ?_
            refine .code ?_
            refine .seq ?_
            refine Wk.rg [0, 1, 2, 3, 4, 5] rfl rfl ?_
            refine mv rfl .no (.u rfl) ?_
            refine nc rfl .no (.u rfl) ?_
            refine ld (v := .slice none 0 0) rfl .no Fx.ag22 (.u rfl) (fun _ => Rd.own (.there .here) (zero_at (k := 0) (by omega))) ?_
            refine mf (vf := #[]) (vc := [Value.pointer (some ⟨b9, 0, none⟩)].toArray) rfl .no (fun a ha _ => by simp) (fun a ha _ => by simp [(Ev.u (c := true) rfl : Ev _ true (.tmp 9) _).eval ha rfl]) ?_
            refine kv rfl .no Fx.go50 (Eva.cons (.u rfl) (Eva.cons (.u rfl) Eva.nil)) (fun _ => idx_ok ⟨none, 0⟩ [] _ SlR.nul (by decide) 51 Fx.go51 [.pointer (some ⟨b9, 0, none⟩)] (fun _ => false) (fun _ _ m hm => by cases hm)) ?_
            refine asg rfl .no (.u rfl) ?_
            refine .nil ?_
            refine .code ?_
            refine .seq ?_
            refine .seq ?_
            refine Wk.rg [0, 1] rfl rfl ?_
            refine mv rfl .no (.u rfl) ?_
            refine cp rfl .no (.u rfl) (.u rfl) rfl ?_
            refine .nil ?_
            refine .code ?_
            refine .cond rfl (fun c6 => ?_) (fun c6 => ?_)
            · have c6k := c6
              try simp only [decide_eq_true_eq, decide_eq_false_iff_not, Int.not_lt, Int.not_le, gt_iff_lt, ge_iff_le, Bool.or_eq_true, Bool.and_eq_true, Bool.or_eq_false_iff, Bool.not_eq_true', Bool.not_eq_false', Int.toNat_natCast, bne_iff_ne, beq_iff_eq, bne_eq_false_iff_eq, beq_eq_false_iff_ne, ne_eq] at c6
              refine .seq ?_
              refine Wk.rg [0, 1, 2] rfl rfl ?_
              refine bC rfl .no Fx.bp27_ .nil rfl ?_
              refine sw rfl (.u rfl) (.u rfl) rfl Fx.sz27 (.there (.there .here)) (by first | exact State.len | exact State.len.trans State.len.symm | exact Edit.len | exact Edit.len.trans Edit.len.symm | exact nine2_len | exact nine2_len.trans State.len.symm | rfl) (State.one') ?_
              refine asg rfl .no (.u rfl) ?_
              refine .nil ?_
              refine .code ?_
              refine .ret ?_
              refine We.fin0 Try.results20 (.cell rfl (fun w hw => run_loadVarN Fx.ag27 (RdN.own .here) ((by first | exact State.len | exact State.len.trans State.len.symm | exact Edit.len | exact Edit.len.trans Edit.len.symm | exact nine2_len | exact nine2_len.trans State.len.symm | rfl)) hw) (.tmp rfl .nil)) ?_
              exact ⟨rfl, rfl⟩
            · have c6k := c6
              cases c6
        · have c4k := c4
          simp at c4; omega

end Go.Proofs.Ytnhdaaggkdegpaa

namespace Go.Proofs.Ytnhdaaggkdegpaa
set_option linter.unusedSimpArgs false
set_option linter.unusedVariables false
open Go.Tan Go.RowKit

namespace Fx
theorem go17 : goFn Try.prog 17 = true := by kernel_rfl
theorem go15 : goFn Try.prog 15 = true := by kernel_rfl
theorem bp51_ : bPl Try.prog 51 [] = some ([.int .u8 0, .int .u64 0], []) := by kernel_rfl
theorem bp32_6 : bPl Try.prog 32 [6] = some (nine (fun _ => 0) ++ [.slice none 0 0, .slice none 0 0], [(10, 1)]) := by kernel_rfl
theorem go20 : goFn Try.prog 20 = true := by kernel_rfl
end Fx
set_option maxHeartbeats 1000000 in
theorem shown18_ok (G : PM) : Ct Try.prog 10 ([] : List Value).toArray G [] (fun _ μ' u => μ' = [] ∧ u = .bool true) := by
  refine Ct.of Try.func10 rfl Try.ntmps10 rfl fun w0 hs0 => ?_
  refine .seq ?_
  refine Wk.rg [0] rfl rfl ?_
  refine asg rfl .no (.u rfl) ?_
  refine .nil ?_
  refine .code ?_
  refine .seq ?_
  refine Wk.rg [0, 1, 2] rfl rfl ?_
  refine bCe (Edit.zero.cells ⟨none, 0⟩ ⟨none, 0⟩) rfl .no Fx.bp32_ .nil rfl (rfl) ?_
  refine kc rfl Fx.go17 (Eva.cons (.u rfl) Eva.nil) (encode_ok Edit.zero ⟨none, 0⟩ ⟨none, 0⟩ _ EdR.zero (by decide) (by decide) (by decide)) ?_
  rintro _ G7 μ7 hG7 ⟨h7, L7, eL7, rfl, rfl, hs7⟩
  refine asg rfl .no (.u rfl) ?_
  refine .nil ?_
  refine .code ?_
  refine .seq ?_
  refine Wk.rg [0, 1, 2, 3, 4, 5, 6, 7] rfl rfl ?_
  refine mkYf (10) (10) rfl .no Fx.se33 Fx.zv5 (.u rfl) (.u rfl) (by first | rfl | omega) (by first | rfl | omega) (by omega) (by omega) ?_; intro G9 h9 L9 eL9 lL9 hG9 hs9
  have hs7 := hs7.mono hG9
  refine kc rfl Fx.go15 (Eva.cons (.u rfl) Eva.nil) (decode_ok L9 h9 _ hs9 (by omega)) ?_
  rintro _ G10 μ10 hG10 ⟨e10, err10, ha10, hd10, hD10, rfl, rfl, hE10⟩
  have hs7 := hs7.mono hG10
  have hs9 := hs9.mono hG10
  refine mv rfl .no (.u rfl) ?_
  refine ex rfl .no (.u rfl) rfl ?_
  refine ex rfl .no (.u rfl) rfl ?_
  refine al rfl Fx.zr32 ?_; intro b2
  refine sw rfl (.u rfl) (.u rfl) rfl Fx.sz32 .here (by first | exact State.len | exact State.len.trans State.len.symm | exact Edit.len | exact Edit.len.trans Edit.len.symm | exact nine2_len | exact nine2_len.trans State.len.symm | rfl) (Edit.one') ?_
  refine asg rfl .no (.u rfl) ?_
  refine .nil ?_
  rw [eL9] at hD10; obtain rfl := decR_ten hD10
  refine .code ?_
  refine .seq ?_
  refine Wk.rg [0, 1, 2, 3, 4, 5, 6, 7, 8, 9, 10] rfl rfl ?_
  refine bCe (State.zero.cells hd0) rfl .no Fx.bp27_ .nil rfl (rfl) ?_
  refine bCe (Gone.zero.cells) rfl .no Fx.bp51_ .nil rfl (rfl) ?_
  refine b1f (cs := Gone.zero.cells) rfl Fx.se30 Fx.zv51 (.u rfl) rfl rfl (by decide) ?_; intro b16 G16 hG16 hb16; have hs16 := hb16.sl1 (sz := 2) (enc := Gone.cells) (x := Gone.zero) (cap := 1) (by decide)
  have hs7 := hs7.mono hG16
  have hs9 := hs9.mono hG16
  have hE10 := hE10.mono hG16
  refine bCe (edit1.cells ⟨none, 0⟩ ⟨some ⟨b16, 0, none⟩, 1⟩) rfl .no Fx.bp32_6 (.cons (.u rfl) rfl .nil) rfl (rfl) ?_
  refine kc rfl Fx.go20 (Eva.cons (.u rfl) (Eva.cons (.u rfl) Eva.nil)) (apply0_ok ⟨some ⟨b16, 0, none⟩, 1⟩ _ hs16) ?_
  rintro _ G18 μ18 hG18 ⟨rfl, rfl⟩
  have hs7 := hs7.mono hG18
  have hs9 := hs9.mono hG18
  have hE10 := hE10.mono hG18
  refine mv rfl .no (.u rfl) ?_
  refine ex rfl .no (.u rfl) rfl ?_
  refine ex rfl .no (.u rfl) rfl ?_
  refine al rfl Fx.zr27 ?_; intro b4
  refine sw rfl (.u rfl) (.u rfl) rfl Fx.sz27 .here (by first | exact State.len | exact State.len.trans State.len.symm | exact Edit.len | exact Edit.len.trans Edit.len.symm | exact nine2_len | exact nine2_len.trans State.len.symm | rfl) (State.one') ?_
  refine asg rfl .no (.u rfl) ?_
  refine .nil ?_
  refine .code ?_
  refine .seq ?_
  refine Wk.mix ⟨false, false⟩ Fx.mix (by kernel_rfl) ?_
  refine Wt.one 0 (by kernel_rfl) ?_
  refine mv rfl .no (.u rfl) ?_
  refine .nil ?_
  refine Wt.one 1 (by kernel_rfl) ?_
  refine ln rfl .no Fx.sn33 (.u rfl) ?_
  refine .nil ?_
  refine Wt.one 2 (by kernel_rfl) ?_
  refine cp rfl .no (.u rfl) (.u rfl) rfl ?_
  refine wo_b true (by rw [eL7, enc_zero]; rfl) ?_
  refine .nil ?_
  refine Wt.one 3 (by kernel_rfl) ?_
  refine mv rfl .no (.u rfl) ?_
  refine .nil ?_
  refine Wt.one 4 (by kernel_rfl) ?_
  refine mv rfl (.t rfl rfl) (.u rfl) ?_
  refine .nil ?_
  refine Wt.b2 5 6 (by kernel_rfl) ?_ ?_
  · refine sB rfl (.t rfl rfl) Fx.bs33_9 (.u rfl) (fun _ => hs7.sc) ?_
    refine .nil ?_
    refine Wt.b1 6 (by kernel_rfl) ?_
    refine mkYf (11) (11) rfl (.t rfl rfl) Fx.se33 Fx.zv5 (.u rfl) (.u rfl) (by first | rfl | omega) (by first | rfl | omega) (by omega) (by omega) ?_; intro G27 h27 L27 eL27 lL27 hG27 hs27
    have hs7 := hs7.mono hG27
    have hs9 := hs9.mono hG27
    have hE10 := hE10.mono hG27
    refine .nil ?_
    refine Wt.one 7 (by kernel_rfl) ?_
    refine sB rfl (.t rfl rfl) Fx.bs33_9 (.u rfl) (fun _ => hs27.sc) ?_
    refine .nil ?_
    refine Wt.one 8 (by kernel_rfl) ?_
    refine cb rfl (.t rfl rfl) (.u rfl) (.u rfl) ?_
    refine wo_b true (by rw [eL7, enc_zero, eL27]; simp) ?_
    refine .nil ?_
    refine Wt.one 9 (by kernel_rfl) ?_
    refine pkA rfl .no (.u rfl) (.u rfl) ?_
    refine .nil ?_
    refine Wt.one 10 (by kernel_rfl) ?_
    refine mv rfl .no (.u rfl) ?_
    refine .nil ?_
    refine Wt.one 11 (by kernel_rfl) ?_
    refine mv rfl (.t rfl rfl) (.u rfl) ?_
    refine .nil ?_
    refine Wt.one 12 (by kernel_rfl) ?_
    refine cp rfl (.t rfl rfl) (.u rfl) (.u rfl) rfl ?_
    refine wo_b true (rfl) ?_
    refine .nil ?_
    refine Wt.one 13 (by kernel_rfl) ?_
    refine pkA rfl .no (.u rfl) (.u rfl) ?_
    refine .nil ?_
    refine Wt.one 14 (by kernel_rfl) ?_
    refine mv rfl .no (.u rfl) ?_
    refine .nil ?_
    refine Wt.one 15 (by kernel_rfl) ?_
    refine mv rfl (.t rfl rfl) (.u rfl) ?_
    refine .nil ?_
    refine Wt.one 16 (by kernel_rfl) ?_
    refine cp rfl (.t rfl rfl) (.u rfl) (.u rfl) rfl ?_
    refine wo_b true (rfl) ?_
    refine .nil ?_
    refine Wt.one 17 (by kernel_rfl) ?_
    refine pkA rfl .no (.u rfl) (.u rfl) ?_
    refine .nil ?_
    refine Wt.one 18 (by kernel_rfl) ?_
    refine mv rfl .no (.u rfl) ?_
    refine .nil ?_
    refine Wt.one 19 (by kernel_rfl) ?_
    refine bCe (State.zero.cells hd0) rfl (.t rfl rfl) Fx.bp27_ .nil rfl (rfl) ?_
    refine .nil ?_
    refine Wt.b1 20 (by kernel_rfl) ?_
    refine kv rfl (.t rfl rfl) Fx.go12 (Eva.cons (.u rfl) Eva.nil) (fun _ => vRight_ok State.zero hd0 _ st_zero) ?_
    refine .nil ?_
    refine Wt.one 21 (by kernel_rfl) ?_
    refine pkA rfl .no (.u rfl) (.u rfl) ?_
    refine .nil ?_
    refine Wt.one 22 (by kernel_rfl) ?_
    refine asg rfl .no (.u rfl) ?_
    refine .nil ?_
    refine Wt.last (by kernel_rfl) ?_
    refine .code ?_
    refine .ret ?_
    refine We.fin0 Try.results10 (.tmp rfl .nil) ?_
    exact ⟨rfl, congrArg Value.bool (by rw [right_zero]; rfl)⟩
  · refine mkYf (11) (11) rfl (.t rfl rfl) Fx.se33 Fx.zv5 (.u rfl) (.u rfl) (by first | rfl | omega) (by first | rfl | omega) (by omega) (by omega) ?_; intro G27 h27 L27 eL27 lL27 hG27 hs27
    have hs7 := hs7.mono hG27
    have hs9 := hs9.mono hG27
    have hE10 := hE10.mono hG27
    refine .nil ?_
    refine Wt.one 5 (by kernel_rfl) ?_
    refine sB rfl (.t rfl rfl) Fx.bs33_9 (.u rfl) (fun _ => hs7.sc) ?_
    refine .nil ?_
    refine Wt.one 7 (by kernel_rfl) ?_
    refine sB rfl (.t rfl rfl) Fx.bs33_9 (.u rfl) (fun _ => hs27.sc) ?_
    refine .nil ?_
    refine Wt.one 8 (by kernel_rfl) ?_
    refine cb rfl (.t rfl rfl) (.u rfl) (.u rfl) ?_
    refine wo_b true (by rw [eL7, enc_zero, eL27]; simp) ?_
    refine .nil ?_
    refine Wt.one 9 (by kernel_rfl) ?_
    refine pkA rfl .no (.u rfl) (.u rfl) ?_
    refine .nil ?_
    refine Wt.one 10 (by kernel_rfl) ?_
    refine mv rfl .no (.u rfl) ?_
    refine .nil ?_
    refine Wt.one 11 (by kernel_rfl) ?_
    refine mv rfl (.t rfl rfl) (.u rfl) ?_
    refine .nil ?_
    refine Wt.one 12 (by kernel_rfl) ?_
    refine cp rfl (.t rfl rfl) (.u rfl) (.u rfl) rfl ?_
    refine wo_b true (rfl) ?_
    refine .nil ?_
    refine Wt.one 13 (by kernel_rfl) ?_
    refine pkA rfl .no (.u rfl) (.u rfl) ?_
    refine .nil ?_
    refine Wt.one 14 (by kernel_rfl) ?_
    refine mv rfl .no (.u rfl) ?_
    refine .nil ?_
    refine Wt.one 15 (by kernel_rfl) ?_
    refine mv rfl (.t rfl rfl) (.u rfl) ?_
    refine .nil ?_
    refine Wt.one 16 (by kernel_rfl) ?_
    refine cp rfl (.t rfl rfl) (.u rfl) (.u rfl) rfl ?_
    refine wo_b true (rfl) ?_
    refine .nil ?_
    refine Wt.one 17 (by kernel_rfl) ?_
    refine pkA rfl .no (.u rfl) (.u rfl) ?_
    refine .nil ?_
    refine Wt.one 18 (by kernel_rfl) ?_
    refine mv rfl .no (.u rfl) ?_
    refine .nil ?_
    refine Wt.one 19 (by kernel_rfl) ?_
    refine bCe (State.zero.cells hd0) rfl (.t rfl rfl) Fx.bp27_ .nil rfl (rfl) ?_
    refine .nil ?_
    refine Wt.b1 20 (by kernel_rfl) ?_
    refine kv rfl (.t rfl rfl) Fx.go12 (Eva.cons (.u rfl) Eva.nil) (fun _ => vRight_ok State.zero hd0 _ st_zero) ?_
    refine .nil ?_
    refine Wt.one 21 (by kernel_rfl) ?_
    refine pkA rfl .no (.u rfl) (.u rfl) ?_
    refine .nil ?_
    refine Wt.one 22 (by kernel_rfl) ?_
    refine asg rfl .no (.u rfl) ?_
    refine .nil ?_
    refine Wt.last (by kernel_rfl) ?_
    refine .code ?_
    refine .ret ?_
    refine We.fin0 Try.results10 (.tmp rfl .nil) ?_
    exact ⟨rfl, congrArg Value.bool (by rw [right_zero]; rfl)⟩

end Go.Proofs.Ytnhdaaggkdegpaa
