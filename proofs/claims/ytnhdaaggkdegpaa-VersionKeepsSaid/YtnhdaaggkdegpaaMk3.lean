/- Lemmas and contracts, joined: Contracts of functions, walked. The arguments of the laws as plain data: whatever is handed in reads so. No condition. Sorting that keeps the order of what is alike: lists with tags. Plain data. No condition. Rows of elements in one's own hands, worked on in place: parts, a part taken out, clearing what lies behind, lending. No condition. Two elements of a list that change places; parts that change places; merging in place. Plain data. No condition. The steps of sorting in place, as lists. Plain data. No condition. Sorting by merging: pieces that are sorted, each of what stood there; the orders of a level's tables. Plain data. No condition. Edits that are the same; what the laws of edits need. Plain data. No condition. What a state becomes by an edit. Plain data. No condition. The document's way: levels that are replaced one by one. Plain data. No condition. -/
import Derived.Test.YtnhdaaggkdegpaaMk2
import Derived.OpenShut
import Derived.JoinedCond
set_option linter.unusedSimpArgs false
set_option linter.unusedVariables false
set_option linter.unusedSectionVars false
namespace Go.Proofs.Ytnhdaaggkdegpaa
set_option linter.unusedSimpArgs false
set_option linter.unusedVariables false
open Go.Tan Go.RowKit

namespace FxVeDa
theorem fo32_5 : fOff Try.prog 32 5 = some 9 := by kernel_rfl
theorem fo32_6 : fOff Try.prog 32 6 = some 10 := by kernel_rfl
theorem ag30 : aggN Try.prog 30 = some none := by kernel_rfl
theorem se30 : slE Try.prog 30 = some (51, 2, 16) := by kernel_rfl
end FxVeDa
namespace Fx
theorem se71 : slE Try.prog 71 = some (70, 1, 8) := by kernel_rfl
theorem zq32 : zrL Try.prog 32 = some (nine (fun _ => 0) ++ [.slice none 0 0, .slice none 0 0]) := by kernel_rfl
theorem go35 : goFn Try.prog 35 = true := by kernel_rfl
theorem bp69_0 : bPl Try.prog 69 [0] = some ([.pointer none, .bool false], [(0, 1)]) := by kernel_rfl
theorem fo32_0 : fOff Try.prog 32 0 = some 0 := by kernel_rfl
theorem fo32_1 : fOff Try.prog 32 1 = some 1 := by kernel_rfl
theorem fo32_2 : fOff Try.prog 32 2 = some 2 := by kernel_rfl
theorem fo32_3 : fOff Try.prog 32 3 = some 3 := by kernel_rfl
theorem zv70 : (Try.prog.info? 70).bind (·.zero) = some (.pointer none) := by kernel_rfl
theorem sn71 : (slE Try.prog 71).isSome = true := by kernel_rfl
theorem ag70 : aggN Try.prog 70 = some none := by kernel_rfl
theorem fo32_4 : fOff Try.prog 32 4 = some 4 := by kernel_rfl
theorem go38 : goFn Try.prog 38 = true := by kernel_rfl
theorem sz22 : szT Try.prog 22 = some 1 := by kernel_rfl
theorem bp51_0 : bPl Try.prog 51 [0] = some ([.int .u8 0, .int .u64 0], [(0, 1)]) := by kernel_rfl
theorem zr51 : zrL Try.prog 51 = some ([.int .u8 0, .int .u64 0]) := by kernel_rfl
theorem sz51 : szT Try.prog 51 = some 2 := by kernel_rfl
theorem fo51_1 : fOff Try.prog 51 1 = some 1 := by kernel_rfl
theorem ag51 : aggN Try.prog 51 = some (some 2) := by kernel_rfl
theorem zv51 : (Try.prog.info? 51).bind (·.zero) = some (.agg #[.int .u8 0, .int .u64 0]) := by kernel_rfl
theorem sz30 : szT Try.prog 30 = some 1 := by kernel_rfl
theorem go39 : goFn Try.prog 39 = true := by kernel_rfl
theorem bp32_ : bPl Try.prog 32 [] = some (nine (fun _ => 0) ++ [.slice none 0 0, .slice none 0 0], []) := by kernel_rfl
theorem sz32 : szT Try.prog 32 = some 11 := by kernel_rfl
theorem ag32 : aggN Try.prog 32 = some (some 11) := by kernel_rfl
end Fx
set_option maxHeartbeats 2000000 in
theorem decode_ok (xs : List Y) (h : Sh) (G : PM) (hs : SlR G 1 encY h xs) (hl : xs.length ≤ 100000000000000) : Ct Try.prog 15 ([h.val xs.length] : List Value).toArray G [] (fun G' μ' u => ∃ e err ha hd, DecR xs e err ∧ μ' = [] ∧ u = .tuple #[Edit.val e ha hd, .int .i64 err] ∧ EdR G' e ha hd) := by
  refine Ct.of Try.func15 rfl Try.ntmps15 rfl fun w0 hs0 => ?_
  refine .seq ?_
  refine Wk.rg [0, 1] rfl rfl ?_
  refine al rfl Fx.zq32 ?_; intro b2
  refine asg rfl .no (.u rfl) ?_
  refine .nil ?_
  refine .code ?_
  refine .seq ?_
  refine Wk.rg [0, 1, 2, 3, 4] rfl rfl ?_
  refine mv rfl .no (.u rfl) ?_
  refine kc rfl Fx.go35 (Eva.cons (.u rfl) Eva.nil) (cNew_ok xs h _ hs hl) ?_
  rintro _ G13 μ13 hG13 ⟨b13, s13, rfl, rfl, hs13⟩
  have hs := hs.mono hG13
  refine bCe ([.pointer (some ⟨b13, 0, none⟩), .bool false]) rfl .no Fx.bp69_0 (.cons (.u rfl) rfl .nil) rfl (rfl) ?_
  refine bx rfl (.u rfl) rfl ?_; intro b15
  refine asg rfl .no (.u rfl) ?_
  refine .nil ?_
  refine .code ?_
  refine .seq ?_
  refine Wk.rg [0] rfl rfl ?_
  refine al rfl Fx.zq32 ?_; intro b5
  refine .nil ?_
  refine .code ?_
  refine .seq ?_
  refine .seq ?_
  refine Wk.rg [0, 1, 2, 3, 4, 5, 6] rfl rfl ?_
  refine fz rfl .no Fx.fo32_0 (.u rfl) ?_
  refine fz rfl .no Fx.fo32_1 (.u rfl) ?_
  refine fz rfl .no Fx.fo32_2 (.u rfl) ?_
  refine fz rfl .no Fx.fo32_3 (.u rfl) ?_
  refine Go.Tan.bN rfl Fx.se71 Fx.zv70 (Evp.cons (.u rfl) (Evp.cons (.u rfl) (Evp.cons (.u rfl) (Evp.cons (.u rfl) Evp.nil)))) rfl (by decide) (by simp [Value.oneCell', Sh.val]) ?_; intro b20
  refine ln rfl .no Fx.sn71 (.u rfl) ?_
  refine mv rfl .no (.u rfl) ?_
  refine .nil ?_
  refine .code ?_
  refine .block ?_
  refine Wk.lop (α := Nat × List Y × Int × Sh × (Nat → Int) × List Nat) (fun gh => [(22, true, .int .i64 (gh.1 : Int))]) (fun gh => [.blk b5 (cl (nine gh.2.2.2.2.1 ++ [.slice none 0 0, .slice none 0 0]) 32), .blk b13 (cl [Sh.val gh.2.2.2.1 gh.2.1.length, .int .i64 gh.2.2.1] 101)])
    (fun gh Gl => (gh.1 ≤ 4) ∧ (gh.2.2.2.2.2.length = gh.1) ∧ (RpR (fun α => @pNum α) 9 ⟨xs, 0⟩ ⟨gh.2.1, gh.2.2.1⟩ false false gh.2.2.2.2.2) ∧ (∀ i, gh.2.2.2.2.1 i = ((gh.2.2.2.2.2.getD i 0 : Nat) : Int)) ∧ (gh.2.1.length ≤ xs.length) ∧ (SlR Gl 1 encY gh.2.2.2.1 gh.2.1)) (fun gh => 4 - gh.1) (0, xs, 0, s13, (fun _ => 0), []) [(2, true, _), (4, true, _), (5, true, _), (20, true, _), (21, true, _)] [_, _, _]
    (ESub.cons rfl (by first | rfl | exact evi (by omega)) (ESub.cons rfl rfl (ESub.cons rfl rfl (ESub.cons rfl rfl (ESub.cons rfl rfl (ESub.cons rfl rfl ESub.nil))))))
    (MSub.cons (.there .here) rfl (MSub.cons (.there (.there .here)) rfl (MSub.cons .here rfl (MSub.cons .here rfl (MSub.cons .here rfl MSub.nil))))) ?_ ?_
  · refine ⟨?_, ?_, ?_, ?_, ?_, ?_⟩
    · (try dsimp only) <;> (first | omega | rfl | assumption | (simp; done))
    · (try dsimp only) <;> (first | omega | rfl | assumption | (simp; done))
    · (try dsimp only) <;> (exact RpR.zero)
    · (try dsimp only) <;> (exact fun i => by simp)
    · (try dsimp only) <;> (first | omega | rfl | assumption | (simp; done))
    · (try dsimp only) <;> (exact hs13)
  intro gh N0 Gl0 hN0 hGl0 hF0
  obtain ⟨k, L, ee, s9, g, rt⟩ := gh; dsimp only at hF0 hN0 ⊢
  obtain ⟨hk, hr, hR, eg, lL, hsl⟩ := hF0
  have hs := hs.mono hGl0
  have hs13 := hs13.mono hGl0
  refine .seq ?_
  refine Wk.rg [0] rfl rfl ?_
  refine cp rfl .no (.u rfl) (.u rfl) rfl ?_
  refine .nil ?_
  refine .code ?_
  refine .seq ?_
  refine .cond rfl (fun c1 => ?_) (fun c1 => ?_)
  · have c1k := c1
    try simp only [decide_eq_true_eq, decide_eq_false_iff_not, Int.not_lt, Int.not_le, gt_iff_lt, ge_iff_le, Bool.or_eq_true, Bool.and_eq_true, Bool.or_eq_false_iff, Bool.and_eq_false_iff, Bool.not_eq_true', Bool.not_eq_false', Int.toNat_natCast, bne_iff_ne, beq_iff_eq, bne_eq_false_iff_eq, beq_eq_false_iff_ne, ne_eq] at c1
    refine .skip ?_
    refine .code ?_
    refine .seq ?_
    refine .block ?_
    refine .seq ?_
    refine Wk.rg [0, 1, 2] rfl rfl ?_
    refine ia rfl .no Fx.se71 (.u rfl) (.u rfl) (fun _ => by omega) (fun _ => by omega) ?_
    refine ld (v := .pointer (some ⟨b5, k, none⟩)) rfl .no Fx.ag70 (.u rfl) (fun _ => Rd.own (.there (.there .here)) (four_at rfl (by omega))) ?_
    refine asg rfl .no (.u rfl) ?_
    refine .nil ?_
    refine .code ?_
    refine Wk.rg [0, 1, 2, 3, 4, 5, 6, 7] rfl rfl ?_
    refine mv rfl .no (.u rfl) ?_
    refine mv rfl .no (.u rfl) ?_
    refine nc rfl .no (.u rfl) ?_
    refine fz rfl .no Fx.fo69_0 (.u rfl) ?_
    refine ld rfl .no Fx.ag66 (.u rfl) (fun _ => Rd.own (.there (.there (.there .here))) (by first | exact wap_f rfl | rfl)) ?_
    refine ka rfl (.inr rfl) Fx.go36 (Eva.cons (.u rfl) Eva.nil) (mtk1 (.there .here)) (rNum_ok L ee s9 b13 _ hsl (by omega)) ?_
    rintro _ G31 μ31 hG31 ⟨n31, L31, e31, s31, hN31, rfl, rfl, hs31⟩
    have lL31 := rdnum_le hN31; have nL31 := rdnum_lt hN31; simp only at lL31
    have hs := hs.mono hG31
    have hs13 := hs13.mono hG31
    have hsl := hsl.mono hG31
    refine nc rfl .no (.u rfl) ?_
    refine s1 rfl (.u rfl) (.u rfl) rfl Fx.sz24 (.there .here) (by first | decide | (simp only [List.length_append, nine_len, List.length_cons, List.length_nil]; omega)) (nine_st (k := k) rfl (by omega)) ?_
    refine .nil ?_
    refine .blk ?_
    refine .code ?_
    refine Wk.rg [0, 1] rfl rfl ?_
    refine arn (((k + 1) : Nat) : Int) rfl .no (.u rfl) (.u rfl) rfl (fun _ => by omega) (fun _ => wrap_i64 (by omega) (by omega)) ?_
    refine mv rfl .no (.u rfl) ?_
    refine .nil ?_
    refine We.lpo (k + 1, L31, e31, s31, upd g k (n31 : Int), rt ++ [n31]) ?_ ?_ ?_ ?_ ?_
    · exact (ESub.cons rfl (by first | rfl | exact evi (by omega)) (ESub.cons rfl rfl (ESub.cons rfl rfl (ESub.cons rfl rfl (ESub.cons rfl rfl (ESub.cons rfl rfl ESub.nil))))))
    · exact (MSub.cons .here rfl (MSub.cons .here rfl (MSub.cons .here rfl (MSub.cons .here rfl (MSub.cons .here rfl MSub.nil)))))
    · first | omega | (dsimp only; omega)
    · exact (hGl0).trans hG31
    · refine ⟨?_, ?_, ?_, ?_, ?_, ?_⟩
      · (try dsimp only) <;> (first | omega | rfl | assumption | (simp; done))
      · (try dsimp only) <;> (simp [hr])
      · (try dsimp only) <;> (exact hR.step (by omega) (fun α O k h => h.numE hN31))
      · (try dsimp only) <;> (exact gs_step hr eg)
      · (try dsimp only) <;> (first | omega | rfl | assumption | (simp; done))
      · (try dsimp only) <;> (exact hs31)
  · have c1k := c1
    try simp only [decide_eq_true_eq, decide_eq_false_iff_not, Int.not_lt, Int.not_le, gt_iff_lt, ge_iff_le, Bool.or_eq_true, Bool.and_eq_true, Bool.or_eq_false_iff, Bool.and_eq_false_iff, Bool.not_eq_true', Bool.not_eq_false', Int.toNat_natCast, bne_iff_ne, beq_iff_eq, bne_eq_false_iff_eq, beq_eq_false_iff_ne, ne_eq] at c1
    refine .exit ?_
    refine .xcode ?_
    refine .xlp ?_
    refine .xblk ?_
    refine .code ?_
    refine .seq ?_
    refine .seq ?_
    refine Wk.rg [0] rfl rfl ?_
    refine mv rfl .no (.u rfl) ?_
    refine .nil ?_
    refine .code ?_
    refine .block ?_
    refine Wk.lop (α := Nat × List Y × Int × Sh × (Nat → Int) × List Nat) (fun gh => [(34, true, .int .i64 (gh.1 : Int))]) (fun gh => [.blk b5 (cl (nine gh.2.2.2.2.1 ++ [.slice none 0 0, .slice none 0 0]) 32), .blk b13 (cl [Sh.val gh.2.2.2.1 gh.2.1.length, .int .i64 gh.2.2.1] 101)])
      (fun gh Gl => (gh.1 ≤ 5) ∧ (gh.2.2.2.2.2.length = 4 + gh.1) ∧ (RpR (fun α => @pNum α) 9 ⟨xs, 0⟩ ⟨gh.2.1, gh.2.2.1⟩ false false gh.2.2.2.2.2) ∧ (∀ i, gh.2.2.2.2.1 i = ((gh.2.2.2.2.2.getD i 0 : Nat) : Int)) ∧ (gh.2.1.length ≤ xs.length) ∧ (SlR Gl 1 encY gh.2.2.2.1 gh.2.1)) (fun gh => 5 - gh.1) (0, L, ee, s9, g, rt) [(2, true, _), (4, true, _), (5, true, _)] [_, _, _]
      (ESub.cons rfl (by first | rfl | exact evi (by omega)) (ESub.cons rfl rfl (ESub.cons rfl rfl (ESub.cons rfl rfl ESub.nil))))
      (MSub.cons .here rfl (MSub.cons .here rfl (MSub.cons .here rfl (MSub.cons .here rfl (MSub.cons .here rfl MSub.nil))))) ?_ ?_
    · refine ⟨?_, ?_, ?_, ?_, ?_, ?_⟩
      · (try dsimp only) <;> (first | omega | rfl | assumption | (simp; done))
      · (try dsimp only) <;> (first | omega | rfl | assumption | (simp; done))
      · (try dsimp only) <;> (exact hR)
      · (try dsimp only) <;> (exact eg)
      · (try dsimp only) <;> (first | omega | rfl | assumption | (simp; done))
      · (try dsimp only) <;> (exact hsl)
    intro gh N1 Gl1 hN1 hGl1 hF1
    obtain ⟨k2, L2, e2, s2, g2, rt2⟩ := gh; dsimp only at hF1 hN1 ⊢
    obtain ⟨hk2, hr2, hR2, eg2, lL2, hsl2⟩ := hF1
    have hs := hs.mono hGl1
    have hs13 := hs13.mono hGl1
    have hsl := hsl.mono hGl1
    refine .seq ?_
    refine Wk.rg [0] rfl rfl ?_
    refine cp rfl .no (.u rfl) (.u rfl) rfl ?_
    refine .nil ?_
    refine .code ?_
    refine .seq ?_
    refine .cond rfl (fun c2 => ?_) (fun c2 => ?_)
    · have c2k := c2
      try simp only [decide_eq_true_eq, decide_eq_false_iff_not, Int.not_lt, Int.not_le, gt_iff_lt, ge_iff_le, Bool.or_eq_true, Bool.and_eq_true, Bool.or_eq_false_iff, Bool.and_eq_false_iff, Bool.not_eq_true', Bool.not_eq_false', Int.toNat_natCast, bne_iff_ne, beq_iff_eq, bne_eq_false_iff_eq, beq_eq_false_iff_ne, ne_eq] at c2
      refine .skip ?_
      refine .code ?_
      refine .seq ?_
      refine .block ?_
      refine .seq ?_
      refine Wk.rg [0, 1] rfl rfl ?_
      refine mv rfl .no (.u rfl) ?_
      refine asg rfl .no (.u rfl) ?_
      refine .nil ?_
      refine .code ?_
      refine Wk.rg [0, 1, 2, 3, 4, 5, 6, 7, 8] rfl rfl ?_
      refine mv rfl .no (.u rfl) ?_
      refine mv rfl .no (.u rfl) ?_
      refine nc rfl .no (.u rfl) ?_
      refine fz rfl .no Fx.fo69_0 (.u rfl) ?_
      refine ld rfl .no Fx.ag66 (.u rfl) (fun _ => Rd.own (.there (.there (.there .here))) (by first | exact wap_f rfl | rfl)) ?_
      refine ka rfl (.inr rfl) Fx.go36 (Eva.cons (.u rfl) Eva.nil) (mtk1 (.there .here)) (rNum_ok L2 e2 s2 b13 _ hsl2 (by omega)) ?_
      rintro _ G42 μ42 hG42 ⟨n42, L42, e42, s42, hN42, rfl, rfl, hs42⟩
      have lL42 := rdnum_le hN42; have nL42 := rdnum_lt hN42; simp only at lL42
      have hs := hs.mono hG42
      have hs13 := hs13.mono hG42
      have hsl := hsl.mono hG42
      have hsl2 := hsl2.mono hG42
      refine fz rfl .no Fx.fo32_4 (.u rfl) ?_
      refine iA rfl .no Fx.ar25 (.u rfl) (.u rfl) (fun _ => by omega) (fun _ => by omega) ?_
      refine s1 rfl (.u rfl) (.u rfl) rfl Fx.sz24 (.there .here) (by first | decide | (simp only [List.length_append, nine_len, List.length_cons, List.length_nil]; omega)) (nine_st (k := 4 + k2) (by omega) (by omega)) ?_
      refine .nil ?_
      refine .blk ?_
      refine .code ?_
      refine Wk.rg [0, 1] rfl rfl ?_
      refine arn (((k2 + 1) : Nat) : Int) rfl .no (.u rfl) (.u rfl) rfl (fun _ => by omega) (fun _ => wrap_i64 (by omega) (by omega)) ?_
      refine mv rfl .no (.u rfl) ?_
      refine .nil ?_
      refine We.lpo (k2 + 1, L42, e42, s42, upd g2 (4 + k2) (n42 : Int), rt2 ++ [n42]) ?_ ?_ ?_ ?_ ?_
      · exact (ESub.cons rfl (by first | rfl | exact evi (by omega)) (ESub.cons rfl rfl (ESub.cons rfl rfl (ESub.cons rfl rfl ESub.nil))))
      · exact (MSub.cons .here rfl (MSub.cons .here rfl (MSub.cons .here rfl (MSub.cons .here rfl (MSub.cons .here rfl MSub.nil)))))
      · first | omega | (dsimp only; omega)
      · exact (hGl1).trans hG42
      · refine ⟨?_, ?_, ?_, ?_, ?_, ?_⟩
        · (try dsimp only) <;> (first | omega | rfl | assumption | (simp; done))
        · (try dsimp only) <;> (simp [hr2]; omega)
        · (try dsimp only) <;> (exact hR2.step (by omega) (fun α O k h => h.numE hN42))
        · (try dsimp only) <;> (exact gs_step hr2 eg2)
        · (try dsimp only) <;> (first | omega | rfl | assumption | (simp; done))
        · (try dsimp only) <;> (exact hs42)
    · have c2k := c2
      try simp only [decide_eq_true_eq, decide_eq_false_iff_not, Int.not_lt, Int.not_le, gt_iff_lt, ge_iff_le, Bool.or_eq_true, Bool.and_eq_true, Bool.or_eq_false_iff, Bool.and_eq_false_iff, Bool.not_eq_true', Bool.not_eq_false', Int.toNat_natCast, bne_iff_ne, beq_iff_eq, bne_eq_false_iff_eq, beq_eq_false_iff_ne, ne_eq] at c2
      refine .exit ?_
      refine .xcode ?_
      refine .xlp ?_
      refine .xblk ?_
      refine .code ?_
      refine .seq ?_
      refine .seq ?_
      refine wk_nilS 40 Meta.cells 48 ?_
      refine Wk.rg [0, 1, 2] rfl rfl ?_
      refine mv rfl .no (.u rfl) ?_
      refine ka rfl (.inr rfl) Fx.go37 (Eva.cons (.u rfl) (Eva.cons (.u rfl) Eva.nil)) (mtk2 (.there (.there (.there (.there .here)))) (.there (.there .here))) (upTo_ok L2 e2 false s2 b15 b13 _ hsl2 (by omega) 1024) ?_
      rintro _ G47 μ47 hG47 ⟨n47, L47, e47, s47, bad47, hN47, hb47, rfl, rfl, hs47⟩
      have lL47 := rdnum_le hN47; have nL47 := rdnum_lt hN47; simp only at lL47
      have hs := hs.mono hG47
      have hs13 := hs13.mono hG47
      have hsl := hsl.mono hG47
      have hsl2 := hsl2.mono hG47
      refine asg rfl .no (.u rfl) ?_
      refine .nil ?_
      refine .code ?_
      refine .block ?_
      have hT1 := dec_b (dec_a hR2 (by omega)) hN47 hb47
      refine Wk.lop (α := Nat × Value × List Y × Int × Sh × Bool × List Meta) (fun gh => [(9, true, .int .u64 (gh.1 : Int))]) (fun gh => [.blk b15 (cl [.pointer (some ⟨b13, 0, none⟩), .bool gh.2.2.2.2.2.1] 69), .blk b13 (cl [Sh.val gh.2.2.2.2.1 gh.2.2.1.length, .int .i64 gh.2.2.2.1] 101), rS 40 Meta.cells gh.2.1 48 gh.2.2.2.2.2.2, .blk b5 (cl (nine g2 ++ [gh.2.1, .slice none 0 0]) 32)])
        (fun gh Gl => (gh.1 + gh.2.2.2.2.2.2.length = n47) ∧ (RpR (fun α => @pMeta α) n47 ⟨L47, e47⟩ ⟨gh.2.2.1, gh.2.2.2.1⟩ bad47 gh.2.2.2.2.2.1 gh.2.2.2.2.2.2) ∧ (gh.2.2.2.2.2.1 = false → n47 ≤ 1024) ∧ (gh.2.2.1.length ≤ xs.length) ∧ (SlR Gl 1 encY gh.2.2.2.2.1 gh.2.2.1)) (fun gh => gh.1) (n47, .slice none 0 0, L47, e47, s47, bad47, []) [(2, true, _), (4, true, _), (5, true, _)] [_, _]
        (ESub.cons rfl rfl (ESub.cons rfl rfl (ESub.cons rfl rfl (ESub.cons rfl rfl ESub.nil))))
        (MSub.cons .here rfl (MSub.cons .here rfl (MSub.cons .here rfl (MSub.cons .here rfl (MSub.cons .here rfl (MSub.cons .here rfl MSub.nil)))))) ?_ ?_
      · refine ⟨?_, ?_, ?_, ?_, ?_⟩
        · (try dsimp only) <;> (first | omega | rfl | assumption | (simp; done))
        · (try dsimp only) <;> (exact RpR.zero)
        · (try dsimp only) <;> (exact fun h => up_le hb47 h)
        · (try dsimp only) <;> (first | omega | rfl | assumption | (simp; done))
        · (try dsimp only) <;> (exact hs47)
      intro gh N2 Gl2 hN2 hGl2 hF2
      obtain ⟨n, va, L3, e3, s3, bad3, add⟩ := gh; dsimp only at hF2 hN2 ⊢
      obtain ⟨hn3, hR3, hbd, lL3, hsl3⟩ := hF2
      have hs := hs.mono hGl2
      have hs13 := hs13.mono hGl2
      have hsl := hsl.mono hGl2
      have hsl2 := hsl2.mono hGl2
      have hs47 := hs47.mono hGl2
      refine .seq ?_
      refine .seq ?_
      refine Wk.rg [0, 1, 2, 3, 4, 5, 6, 7, 8] rfl rfl ?_
      refine mv rfl .no (.u rfl) ?_
      refine cp rfl .no (.u rfl) (.u rfl) rfl ?_
      refine mv rfl .no (.u rfl) ?_
      refine mv rfl (.t rfl rfl) (.u rfl) ?_
      refine nc rfl (.t rfl rfl) (.s rfl) ?_
      refine fz rfl (.t rfl rfl) Fx.fo69_1 (.s rfl) ?_
      refine ld rfl (.t rfl rfl) Fx.ag4 (.s rfl) (fun hc => Rd.own .here (by first | exact wap_f rfl | rfl)) ?_
      refine nt rfl (.t rfl rfl) (.s rfl) ?_
      refine pkA rfl .no (.u rfl) (.s rfl) ?_
      refine .nil ?_
      refine .code ?_
      refine .cond rfl (fun c3 => ?_) (fun c3 => ?_)
      · have c3k := c3
        try simp only [decide_eq_true_eq, decide_eq_false_iff_not, Int.not_lt, Int.not_le, gt_iff_lt, ge_iff_le, Bool.or_eq_true, Bool.and_eq_true, Bool.or_eq_false_iff, Bool.and_eq_false_iff, Bool.not_eq_true', Bool.not_eq_false', Int.toNat_natCast, bne_iff_ne, beq_iff_eq, bne_eq_false_iff_eq, beq_eq_false_iff_ne, ne_eq] at c3
        refine .skip ?_
        refine .code ?_
        refine .seq ?_
        refine .block ?_
        refine Wk.drawT Fx.mix rfl ?_
        refine WoT.n2 0 2 (by kernel_rfl) ?_ ?_
        · refine fz rfl .no FxVeDa.fo32_5 (.u rfl) ?_
          refine .nil ?_
          refine WoT.n2 1 2 (by kernel_rfl) ?_ ?_
          · refine ld rfl .no Fx.ag22 (.u rfl) (fun _ => Rd.own (.there (.there (.there .here))) nine_a) ?_
            refine .nil ?_
            refine WoT.n1 2 (by kernel_rfl) ?_
            refine mv rfl .no (.u rfl) ?_
            refine .nil ?_
            refine WoT.n1 3 (by kernel_rfl) ?_
            refine ka rfl (.inr rfl) Fx.go38 (Eva.cons (.u rfl) Eva.nil) (mtk2 .here .here) (meta_ok L3 e3 bad3 s3 b15 b13 _ hsl3 (by omega)) ?_
            rintro _ G62 μ62 hG62 ⟨m62, L62, e62, s62, bad62, hM62, lL62, rfl, rfl, hs62⟩
            have hs := hs.mono hG62
            have hs13 := hs13.mono hG62
            have hsl := hsl.mono hG62
            have hsl2 := hsl2.mono hG62
            have hs47 := hs47.mono hG62
            have hsl3 := hsl3.mono hG62
            refine .nil ?_
            refine WoT.n1 4 (by kernel_rfl) ?_
            refine Go.Tan.b1 rfl Fx.se22 Fx.zw48 (.u rfl) rfl rfl (by decide) ?_; intro b63
            refine .nil ?_
            refine WoT.n1 5 (by kernel_rfl) ?_
            refine apS (xs := add) (m62) rfl Fx.se22 Fx.zw48 rfl (.u rfl) (.u rfl) (.there (.there (.there .here))) .here (Meta.len _) (Meta.one _) (by have := hbd c3.2; omega) (by have := hbd c3.2; unfold maxLen; omega) ?_; intro v64 ov64
            refine .nil ?_
            refine WoT.n1 6 (by kernel_rfl) ?_
            refine fz rfl .no FxVeDa.fo32_5 (.u rfl) ?_
            refine .nil ?_
            refine WoT.n1 7 (by kernel_rfl) ?_
            refine s1v rfl (.u rfl) (.u rfl) .here Fx.sz22 (.there (.there (.there (.there .here)))) (by first | decide | (simp only [List.length_append, nine_len, List.length_cons, List.length_nil]; omega)) (nine_sa) ?_
            refine .nil ?_
            refine WoT.last (by kernel_rfl) ?_
            refine .blk ?_
            refine .code ?_
            refine Wk.rg [0, 1, 2] rfl rfl ?_
            refine mv rfl .no (.u rfl) ?_
            refine ar rfl .no (.u rfl) (.u rfl) rfl (fun _ => wrap_u64 (by omega) (by omega)) ?_
            refine asg rfl .no (.u rfl) ?_
            refine .nil ?_
            refine We.lpo (n - 1, v64, L62, e62, s62, bad62, add ++ [m62]) ?_ ?_ ?_ ?_ ?_
            · exact (ESub.cons rfl (evi (by omega)) (ESub.cons rfl rfl (ESub.cons rfl rfl (ESub.cons rfl rfl ESub.nil))))
            · exact (MSub.cons (.there (.there (.there .here))) rfl (MSub.cons (.there (.there (.there .here))) rfl (MSub.cons (.there .here) rfl (MSub.cons .here rfl (MSub.cons (.there .here) rfl (MSub.cons (.there .here) rfl MSub.nil))))))
            · first | omega | (dsimp only; omega)
            · exact (hGl2).trans hG62
            · refine ⟨?_, ?_, ?_, ?_, ?_⟩
              · (try dsimp only) <;> (rw [List.length_append]; show _ + (_ + 1) = _; omega)
              · (try dsimp only) <;> (exact hR3.step (by omega) hM62)
              · (try dsimp only) <;> (exact fun _ => hbd c3.2)
              · (try dsimp only) <;> (first | omega | rfl | assumption | (simp; done))
              · (try dsimp only) <;> (exact hs62)
          · refine mv rfl .no (.u rfl) ?_
            refine .nil ?_
            refine WoT.n2 1 3 (by kernel_rfl) ?_ ?_
            · refine ld rfl .no Fx.ag22 (.u rfl) (fun _ => Rd.own (.there (.there (.there .here))) nine_a) ?_
              refine .nil ?_
              refine WoT.n1 3 (by kernel_rfl) ?_
              refine ka rfl (.inr rfl) Fx.go38 (Eva.cons (.u rfl) Eva.nil) (mtk2 .here .here) (meta_ok L3 e3 bad3 s3 b15 b13 _ hsl3 (by omega)) ?_
              rintro _ G62 μ62 hG62 ⟨m62, L62, e62, s62, bad62, hM62, lL62, rfl, rfl, hs62⟩
              have hs := hs.mono hG62
              have hs13 := hs13.mono hG62
              have hsl := hsl.mono hG62
              have hsl2 := hsl2.mono hG62
              have hs47 := hs47.mono hG62
              have hsl3 := hsl3.mono hG62
              refine .nil ?_
              refine WoT.n1 4 (by kernel_rfl) ?_
              refine Go.Tan.b1 rfl Fx.se22 Fx.zw48 (.u rfl) rfl rfl (by decide) ?_; intro b63
              refine .nil ?_
              refine WoT.n1 5 (by kernel_rfl) ?_
              refine apS (xs := add) (m62) rfl Fx.se22 Fx.zw48 rfl (.u rfl) (.u rfl) (.there (.there (.there .here))) .here (Meta.len _) (Meta.one _) (by have := hbd c3.2; omega) (by have := hbd c3.2; unfold maxLen; omega) ?_; intro v64 ov64
              refine .nil ?_
              refine WoT.n1 6 (by kernel_rfl) ?_
              refine fz rfl .no FxVeDa.fo32_5 (.u rfl) ?_
              refine .nil ?_
              refine WoT.n1 7 (by kernel_rfl) ?_
              refine s1v rfl (.u rfl) (.u rfl) .here Fx.sz22 (.there (.there (.there (.there .here)))) (by first | decide | (simp only [List.length_append, nine_len, List.length_cons, List.length_nil]; omega)) (nine_sa) ?_
              refine .nil ?_
              refine WoT.last (by kernel_rfl) ?_
              refine .blk ?_
              refine .code ?_
              refine Wk.rg [0, 1, 2] rfl rfl ?_
              refine mv rfl .no (.u rfl) ?_
              refine ar rfl .no (.u rfl) (.u rfl) rfl (fun _ => wrap_u64 (by omega) (by omega)) ?_
              refine asg rfl .no (.u rfl) ?_
              refine .nil ?_
              refine We.lpo (n - 1, v64, L62, e62, s62, bad62, add ++ [m62]) ?_ ?_ ?_ ?_ ?_
              · exact (ESub.cons rfl (evi (by omega)) (ESub.cons rfl rfl (ESub.cons rfl rfl (ESub.cons rfl rfl ESub.nil))))
              · exact (MSub.cons (.there (.there (.there .here))) rfl (MSub.cons (.there (.there (.there .here))) rfl (MSub.cons (.there .here) rfl (MSub.cons .here rfl (MSub.cons (.there .here) rfl (MSub.cons (.there .here) rfl MSub.nil))))))
              · first | omega | (dsimp only; omega)
              · exact (hGl2).trans hG62
              · refine ⟨?_, ?_, ?_, ?_, ?_⟩
                · (try dsimp only) <;> (rw [List.length_append]; show _ + (_ + 1) = _; omega)
                · (try dsimp only) <;> (exact hR3.step (by omega) hM62)
                · (try dsimp only) <;> (exact fun _ => hbd c3.2)
                · (try dsimp only) <;> (first | omega | rfl | assumption | (simp; done))
                · (try dsimp only) <;> (exact hs62)
            · refine ka rfl (.inr rfl) Fx.go38 (Eva.cons (.u rfl) Eva.nil) (mtk2 .here .here) (meta_ok L3 e3 bad3 s3 b15 b13 _ hsl3 (by omega)) ?_
              rintro _ G62 μ62 hG62 ⟨m62, L62, e62, s62, bad62, hM62, lL62, rfl, rfl, hs62⟩
              have hs := hs.mono hG62
              have hs13 := hs13.mono hG62
              have hsl := hsl.mono hG62
              have hsl2 := hsl2.mono hG62
              have hs47 := hs47.mono hG62
              have hsl3 := hsl3.mono hG62
              refine .nil ?_
              refine WoT.n2 1 4 (by kernel_rfl) ?_ ?_
              · refine ld rfl .no Fx.ag22 (.u rfl) (fun _ => Rd.own (.there (.there (.there .here))) nine_a) ?_
                refine .nil ?_
                refine WoT.n1 4 (by kernel_rfl) ?_
                refine Go.Tan.b1 rfl Fx.se22 Fx.zw48 (.u rfl) rfl rfl (by decide) ?_; intro b63
                refine .nil ?_
                refine WoT.n1 5 (by kernel_rfl) ?_
                refine apS (xs := add) (m62) rfl Fx.se22 Fx.zw48 rfl (.u rfl) (.u rfl) (.there (.there (.there .here))) .here (Meta.len _) (Meta.one _) (by have := hbd c3.2; omega) (by have := hbd c3.2; unfold maxLen; omega) ?_; intro v64 ov64
                refine .nil ?_
                refine WoT.n1 6 (by kernel_rfl) ?_
                refine fz rfl .no FxVeDa.fo32_5 (.u rfl) ?_
                refine .nil ?_
                refine WoT.n1 7 (by kernel_rfl) ?_
                refine s1v rfl (.u rfl) (.u rfl) .here Fx.sz22 (.there (.there (.there (.there .here)))) (by first | decide | (simp only [List.length_append, nine_len, List.length_cons, List.length_nil]; omega)) (nine_sa) ?_
                refine .nil ?_
                refine WoT.last (by kernel_rfl) ?_
                refine .blk ?_
                refine .code ?_
                refine Wk.rg [0, 1, 2] rfl rfl ?_
                refine mv rfl .no (.u rfl) ?_
                refine ar rfl .no (.u rfl) (.u rfl) rfl (fun _ => wrap_u64 (by omega) (by omega)) ?_
                refine asg rfl .no (.u rfl) ?_
                refine .nil ?_
                refine We.lpo (n - 1, v64, L62, e62, s62, bad62, add ++ [m62]) ?_ ?_ ?_ ?_ ?_
                · exact (ESub.cons rfl (evi (by omega)) (ESub.cons rfl rfl (ESub.cons rfl rfl (ESub.cons rfl rfl ESub.nil))))
                · exact (MSub.cons (.there (.there (.there .here))) rfl (MSub.cons (.there (.there (.there .here))) rfl (MSub.cons (.there .here) rfl (MSub.cons .here rfl (MSub.cons (.there .here) rfl (MSub.cons (.there .here) rfl MSub.nil))))))
                · first | omega | (dsimp only; omega)
                · exact (hGl2).trans hG62
                · refine ⟨?_, ?_, ?_, ?_, ?_⟩
                  · (try dsimp only) <;> (rw [List.length_append]; show _ + (_ + 1) = _; omega)
                  · (try dsimp only) <;> (exact hR3.step (by omega) hM62)
                  · (try dsimp only) <;> (exact fun _ => hbd c3.2)
                  · (try dsimp only) <;> (first | omega | rfl | assumption | (simp; done))
                  · (try dsimp only) <;> (exact hs62)
              · refine Go.Tan.b1 rfl Fx.se22 Fx.zw48 (.u rfl) rfl rfl (by decide) ?_; intro b63
                refine .nil ?_
                refine WoT.n1 1 (by kernel_rfl) ?_
                refine ld rfl .no Fx.ag22 (.u rfl) (fun _ => Rd.own (.there (.there (.there (.there .here)))) nine_a) ?_
                refine .nil ?_
                refine WoT.n1 5 (by kernel_rfl) ?_
                refine apS (xs := add) (m62) rfl Fx.se22 Fx.zw48 rfl (.u rfl) (.u rfl) (.there (.there (.there .here))) .here (Meta.len _) (Meta.one _) (by have := hbd c3.2; omega) (by have := hbd c3.2; unfold maxLen; omega) ?_; intro v64 ov64
                refine .nil ?_
                refine WoT.n1 6 (by kernel_rfl) ?_
                refine fz rfl .no FxVeDa.fo32_5 (.u rfl) ?_
                refine .nil ?_
                refine WoT.n1 7 (by kernel_rfl) ?_
                refine s1v rfl (.u rfl) (.u rfl) .here Fx.sz22 (.there (.there (.there (.there .here)))) (by first | decide | (simp only [List.length_append, nine_len, List.length_cons, List.length_nil]; omega)) (nine_sa) ?_
                refine .nil ?_
                refine WoT.last (by kernel_rfl) ?_
                refine .blk ?_
                refine .code ?_
                refine Wk.rg [0, 1, 2] rfl rfl ?_
                refine mv rfl .no (.u rfl) ?_
                refine ar rfl .no (.u rfl) (.u rfl) rfl (fun _ => wrap_u64 (by omega) (by omega)) ?_
                refine asg rfl .no (.u rfl) ?_
                refine .nil ?_
                refine We.lpo (n - 1, v64, L62, e62, s62, bad62, add ++ [m62]) ?_ ?_ ?_ ?_ ?_
                · exact (ESub.cons rfl (evi (by omega)) (ESub.cons rfl rfl (ESub.cons rfl rfl (ESub.cons rfl rfl ESub.nil))))
                · exact (MSub.cons (.there (.there (.there .here))) rfl (MSub.cons (.there (.there (.there .here))) rfl (MSub.cons (.there .here) rfl (MSub.cons .here rfl (MSub.cons (.there .here) rfl (MSub.cons (.there .here) rfl MSub.nil))))))
                · first | omega | (dsimp only; omega)
                · exact (hGl2).trans hG62
                · refine ⟨?_, ?_, ?_, ?_, ?_⟩
                  · (try dsimp only) <;> (rw [List.length_append]; show _ + (_ + 1) = _; omega)
                  · (try dsimp only) <;> (exact hR3.step (by omega) hM62)
                  · (try dsimp only) <;> (exact fun _ => hbd c3.2)
                  · (try dsimp only) <;> (first | omega | rfl | assumption | (simp; done))
                  · (try dsimp only) <;> (exact hs62)
        · refine mv rfl .no (.u rfl) ?_
          refine .nil ?_
          refine WoT.n2 0 3 (by kernel_rfl) ?_ ?_
          · refine fz rfl .no FxVeDa.fo32_5 (.u rfl) ?_
            refine .nil ?_
            refine WoT.n2 1 3 (by kernel_rfl) ?_ ?_
            · refine ld rfl .no Fx.ag22 (.u rfl) (fun _ => Rd.own (.there (.there (.there .here))) nine_a) ?_
              refine .nil ?_
              refine WoT.n1 3 (by kernel_rfl) ?_
              refine ka rfl (.inr rfl) Fx.go38 (Eva.cons (.u rfl) Eva.nil) (mtk2 .here .here) (meta_ok L3 e3 bad3 s3 b15 b13 _ hsl3 (by omega)) ?_
              rintro _ G62 μ62 hG62 ⟨m62, L62, e62, s62, bad62, hM62, lL62, rfl, rfl, hs62⟩
              have hs := hs.mono hG62
              have hs13 := hs13.mono hG62
              have hsl := hsl.mono hG62
              have hsl2 := hsl2.mono hG62
              have hs47 := hs47.mono hG62
              have hsl3 := hsl3.mono hG62
              refine .nil ?_
              refine WoT.n1 4 (by kernel_rfl) ?_
              refine Go.Tan.b1 rfl Fx.se22 Fx.zw48 (.u rfl) rfl rfl (by decide) ?_; intro b63
              refine .nil ?_
              refine WoT.n1 5 (by kernel_rfl) ?_
              refine apS (xs := add) (m62) rfl Fx.se22 Fx.zw48 rfl (.u rfl) (.u rfl) (.there (.there (.there .here))) .here (Meta.len _) (Meta.one _) (by have := hbd c3.2; omega) (by have := hbd c3.2; unfold maxLen; omega) ?_; intro v64 ov64
              refine .nil ?_
              refine WoT.n1 6 (by kernel_rfl) ?_
              refine fz rfl .no FxVeDa.fo32_5 (.u rfl) ?_
              refine .nil ?_
              refine WoT.n1 7 (by kernel_rfl) ?_
              refine s1v rfl (.u rfl) (.u rfl) .here Fx.sz22 (.there (.there (.there (.there .here)))) (by first | decide | (simp only [List.length_append, nine_len, List.length_cons, List.length_nil]; omega)) (nine_sa) ?_
              refine .nil ?_
              refine WoT.last (by kernel_rfl) ?_
              refine .blk ?_
              refine .code ?_
              refine Wk.rg [0, 1, 2] rfl rfl ?_
              refine mv rfl .no (.u rfl) ?_
              refine ar rfl .no (.u rfl) (.u rfl) rfl (fun _ => wrap_u64 (by omega) (by omega)) ?_
              refine asg rfl .no (.u rfl) ?_
              refine .nil ?_
              refine We.lpo (n - 1, v64, L62, e62, s62, bad62, add ++ [m62]) ?_ ?_ ?_ ?_ ?_
              · exact (ESub.cons rfl (evi (by omega)) (ESub.cons rfl rfl (ESub.cons rfl rfl (ESub.cons rfl rfl ESub.nil))))
              · exact (MSub.cons (.there (.there (.there .here))) rfl (MSub.cons (.there (.there (.there .here))) rfl (MSub.cons (.there .here) rfl (MSub.cons .here rfl (MSub.cons (.there .here) rfl (MSub.cons (.there .here) rfl MSub.nil))))))
              · first | omega | (dsimp only; omega)
              · exact (hGl2).trans hG62
              · refine ⟨?_, ?_, ?_, ?_, ?_⟩
                · (try dsimp only) <;> (rw [List.length_append]; show _ + (_ + 1) = _; omega)
                · (try dsimp only) <;> (exact hR3.step (by omega) hM62)
                · (try dsimp only) <;> (exact fun _ => hbd c3.2)
                · (try dsimp only) <;> (first | omega | rfl | assumption | (simp; done))
                · (try dsimp only) <;> (exact hs62)
            · refine ka rfl (.inr rfl) Fx.go38 (Eva.cons (.u rfl) Eva.nil) (mtk2 .here .here) (meta_ok L3 e3 bad3 s3 b15 b13 _ hsl3 (by omega)) ?_
              rintro _ G62 μ62 hG62 ⟨m62, L62, e62, s62, bad62, hM62, lL62, rfl, rfl, hs62⟩
              have hs := hs.mono hG62
              have hs13 := hs13.mono hG62
              have hsl := hsl.mono hG62
              have hsl2 := hsl2.mono hG62
              have hs47 := hs47.mono hG62
              have hsl3 := hsl3.mono hG62
              refine .nil ?_
              refine WoT.n2 1 4 (by kernel_rfl) ?_ ?_
              · refine ld rfl .no Fx.ag22 (.u rfl) (fun _ => Rd.own (.there (.there (.there .here))) nine_a) ?_
                refine .nil ?_
                refine WoT.n1 4 (by kernel_rfl) ?_
                refine Go.Tan.b1 rfl Fx.se22 Fx.zw48 (.u rfl) rfl rfl (by decide) ?_; intro b63
                refine .nil ?_
                refine WoT.n1 5 (by kernel_rfl) ?_
                refine apS (xs := add) (m62) rfl Fx.se22 Fx.zw48 rfl (.u rfl) (.u rfl) (.there (.there (.there .here))) .here (Meta.len _) (Meta.one _) (by have := hbd c3.2; omega) (by have := hbd c3.2; unfold maxLen; omega) ?_; intro v64 ov64
                refine .nil ?_
                refine WoT.n1 6 (by kernel_rfl) ?_
                refine fz rfl .no FxVeDa.fo32_5 (.u rfl) ?_
                refine .nil ?_
                refine WoT.n1 7 (by kernel_rfl) ?_
                refine s1v rfl (.u rfl) (.u rfl) .here Fx.sz22 (.there (.there (.there (.there .here)))) (by first | decide | (simp only [List.length_append, nine_len, List.length_cons, List.length_nil]; omega)) (nine_sa) ?_
                refine .nil ?_
                refine WoT.last (by kernel_rfl) ?_
                refine .blk ?_
                refine .code ?_
                refine Wk.rg [0, 1, 2] rfl rfl ?_
                refine mv rfl .no (.u rfl) ?_
                refine ar rfl .no (.u rfl) (.u rfl) rfl (fun _ => wrap_u64 (by omega) (by omega)) ?_
                refine asg rfl .no (.u rfl) ?_
                refine .nil ?_
                refine We.lpo (n - 1, v64, L62, e62, s62, bad62, add ++ [m62]) ?_ ?_ ?_ ?_ ?_
                · exact (ESub.cons rfl (evi (by omega)) (ESub.cons rfl rfl (ESub.cons rfl rfl (ESub.cons rfl rfl ESub.nil))))
                · exact (MSub.cons (.there (.there (.there .here))) rfl (MSub.cons (.there (.there (.there .here))) rfl (MSub.cons (.there .here) rfl (MSub.cons .here rfl (MSub.cons (.there .here) rfl (MSub.cons (.there .here) rfl MSub.nil))))))
                · first | omega | (dsimp only; omega)
                · exact (hGl2).trans hG62
                · refine ⟨?_, ?_, ?_, ?_, ?_⟩
                  · (try dsimp only) <;> (rw [List.length_append]; show _ + (_ + 1) = _; omega)
                  · (try dsimp only) <;> (exact hR3.step (by omega) hM62)
                  · (try dsimp only) <;> (exact fun _ => hbd c3.2)
                  · (try dsimp only) <;> (first | omega | rfl | assumption | (simp; done))
                  · (try dsimp only) <;> (exact hs62)
              · refine Go.Tan.b1 rfl Fx.se22 Fx.zw48 (.u rfl) rfl rfl (by decide) ?_; intro b63
                refine .nil ?_
                refine WoT.n1 1 (by kernel_rfl) ?_
                refine ld rfl .no Fx.ag22 (.u rfl) (fun _ => Rd.own (.there (.there (.there (.there .here)))) nine_a) ?_
                refine .nil ?_
                refine WoT.n1 5 (by kernel_rfl) ?_
                refine apS (xs := add) (m62) rfl Fx.se22 Fx.zw48 rfl (.u rfl) (.u rfl) (.there (.there (.there .here))) .here (Meta.len _) (Meta.one _) (by have := hbd c3.2; omega) (by have := hbd c3.2; unfold maxLen; omega) ?_; intro v64 ov64
                refine .nil ?_
                refine WoT.n1 6 (by kernel_rfl) ?_
                refine fz rfl .no FxVeDa.fo32_5 (.u rfl) ?_
                refine .nil ?_
                refine WoT.n1 7 (by kernel_rfl) ?_
                refine s1v rfl (.u rfl) (.u rfl) .here Fx.sz22 (.there (.there (.there (.there .here)))) (by first | decide | (simp only [List.length_append, nine_len, List.length_cons, List.length_nil]; omega)) (nine_sa) ?_
                refine .nil ?_
                refine WoT.last (by kernel_rfl) ?_
                refine .blk ?_
                refine .code ?_
                refine Wk.rg [0, 1, 2] rfl rfl ?_
                refine mv rfl .no (.u rfl) ?_
                refine ar rfl .no (.u rfl) (.u rfl) rfl (fun _ => wrap_u64 (by omega) (by omega)) ?_
                refine asg rfl .no (.u rfl) ?_
                refine .nil ?_
                refine We.lpo (n - 1, v64, L62, e62, s62, bad62, add ++ [m62]) ?_ ?_ ?_ ?_ ?_
                · exact (ESub.cons rfl (evi (by omega)) (ESub.cons rfl rfl (ESub.cons rfl rfl (ESub.cons rfl rfl ESub.nil))))
                · exact (MSub.cons (.there (.there (.there .here))) rfl (MSub.cons (.there (.there (.there .here))) rfl (MSub.cons (.there .here) rfl (MSub.cons .here rfl (MSub.cons (.there .here) rfl (MSub.cons (.there .here) rfl MSub.nil))))))
                · first | omega | (dsimp only; omega)
                · exact (hGl2).trans hG62
                · refine ⟨?_, ?_, ?_, ?_, ?_⟩
                  · (try dsimp only) <;> (rw [List.length_append]; show _ + (_ + 1) = _; omega)
                  · (try dsimp only) <;> (exact hR3.step (by omega) hM62)
                  · (try dsimp only) <;> (exact fun _ => hbd c3.2)
                  · (try dsimp only) <;> (first | omega | rfl | assumption | (simp; done))
                  · (try dsimp only) <;> (exact hs62)
          · refine ka rfl (.inr rfl) Fx.go38 (Eva.cons (.u rfl) Eva.nil) (mtk2 .here .here) (meta_ok L3 e3 bad3 s3 b15 b13 _ hsl3 (by omega)) ?_
            rintro _ G62 μ62 hG62 ⟨m62, L62, e62, s62, bad62, hM62, lL62, rfl, rfl, hs62⟩
            have hs := hs.mono hG62
            have hs13 := hs13.mono hG62
            have hsl := hsl.mono hG62
            have hsl2 := hsl2.mono hG62
            have hs47 := hs47.mono hG62
            have hsl3 := hsl3.mono hG62
            refine .nil ?_
            refine WoT.n2 0 4 (by kernel_rfl) ?_ ?_
            · refine fz rfl .no FxVeDa.fo32_5 (.u rfl) ?_
              refine .nil ?_
              refine WoT.n2 1 4 (by kernel_rfl) ?_ ?_
              · refine ld rfl .no Fx.ag22 (.u rfl) (fun _ => Rd.own (.there (.there (.there .here))) nine_a) ?_
                refine .nil ?_
                refine WoT.n1 4 (by kernel_rfl) ?_
                refine Go.Tan.b1 rfl Fx.se22 Fx.zw48 (.u rfl) rfl rfl (by decide) ?_; intro b63
                refine .nil ?_
                refine WoT.n1 5 (by kernel_rfl) ?_
                refine apS (xs := add) (m62) rfl Fx.se22 Fx.zw48 rfl (.u rfl) (.u rfl) (.there (.there (.there .here))) .here (Meta.len _) (Meta.one _) (by have := hbd c3.2; omega) (by have := hbd c3.2; unfold maxLen; omega) ?_; intro v64 ov64
                refine .nil ?_
                refine WoT.n1 6 (by kernel_rfl) ?_
                refine fz rfl .no FxVeDa.fo32_5 (.u rfl) ?_
                refine .nil ?_
                refine WoT.n1 7 (by kernel_rfl) ?_
                refine s1v rfl (.u rfl) (.u rfl) .here Fx.sz22 (.there (.there (.there (.there .here)))) (by first | decide | (simp only [List.length_append, nine_len, List.length_cons, List.length_nil]; omega)) (nine_sa) ?_
                refine .nil ?_
                refine WoT.last (by kernel_rfl) ?_
                refine .blk ?_
                refine .code ?_
                refine Wk.rg [0, 1, 2] rfl rfl ?_
                refine mv rfl .no (.u rfl) ?_
                refine ar rfl .no (.u rfl) (.u rfl) rfl (fun _ => wrap_u64 (by omega) (by omega)) ?_
                refine asg rfl .no (.u rfl) ?_
                refine .nil ?_
                refine We.lpo (n - 1, v64, L62, e62, s62, bad62, add ++ [m62]) ?_ ?_ ?_ ?_ ?_
                · exact (ESub.cons rfl (evi (by omega)) (ESub.cons rfl rfl (ESub.cons rfl rfl (ESub.cons rfl rfl ESub.nil))))
                · exact (MSub.cons (.there (.there (.there .here))) rfl (MSub.cons (.there (.there (.there .here))) rfl (MSub.cons (.there .here) rfl (MSub.cons .here rfl (MSub.cons (.there .here) rfl (MSub.cons (.there .here) rfl MSub.nil))))))
                · first | omega | (dsimp only; omega)
                · exact (hGl2).trans hG62
                · refine ⟨?_, ?_, ?_, ?_, ?_⟩
                  · (try dsimp only) <;> (rw [List.length_append]; show _ + (_ + 1) = _; omega)
                  · (try dsimp only) <;> (exact hR3.step (by omega) hM62)
                  · (try dsimp only) <;> (exact fun _ => hbd c3.2)
                  · (try dsimp only) <;> (first | omega | rfl | assumption | (simp; done))
                  · (try dsimp only) <;> (exact hs62)
              · refine Go.Tan.b1 rfl Fx.se22 Fx.zw48 (.u rfl) rfl rfl (by decide) ?_; intro b63
                refine .nil ?_
                refine WoT.n1 1 (by kernel_rfl) ?_
                refine ld rfl .no Fx.ag22 (.u rfl) (fun _ => Rd.own (.there (.there (.there (.there .here)))) nine_a) ?_
                refine .nil ?_
                refine WoT.n1 5 (by kernel_rfl) ?_
                refine apS (xs := add) (m62) rfl Fx.se22 Fx.zw48 rfl (.u rfl) (.u rfl) (.there (.there (.there .here))) .here (Meta.len _) (Meta.one _) (by have := hbd c3.2; omega) (by have := hbd c3.2; unfold maxLen; omega) ?_; intro v64 ov64
                refine .nil ?_
                refine WoT.n1 6 (by kernel_rfl) ?_
                refine fz rfl .no FxVeDa.fo32_5 (.u rfl) ?_
                refine .nil ?_
                refine WoT.n1 7 (by kernel_rfl) ?_
                refine s1v rfl (.u rfl) (.u rfl) .here Fx.sz22 (.there (.there (.there (.there .here)))) (by first | decide | (simp only [List.length_append, nine_len, List.length_cons, List.length_nil]; omega)) (nine_sa) ?_
                refine .nil ?_
                refine WoT.last (by kernel_rfl) ?_
                refine .blk ?_
                refine .code ?_
                refine Wk.rg [0, 1, 2] rfl rfl ?_
                refine mv rfl .no (.u rfl) ?_
                refine ar rfl .no (.u rfl) (.u rfl) rfl (fun _ => wrap_u64 (by omega) (by omega)) ?_
                refine asg rfl .no (.u rfl) ?_
                refine .nil ?_
                refine We.lpo (n - 1, v64, L62, e62, s62, bad62, add ++ [m62]) ?_ ?_ ?_ ?_ ?_
                · exact (ESub.cons rfl (evi (by omega)) (ESub.cons rfl rfl (ESub.cons rfl rfl (ESub.cons rfl rfl ESub.nil))))
                · exact (MSub.cons (.there (.there (.there .here))) rfl (MSub.cons (.there (.there (.there .here))) rfl (MSub.cons (.there .here) rfl (MSub.cons .here rfl (MSub.cons (.there .here) rfl (MSub.cons (.there .here) rfl MSub.nil))))))
                · first | omega | (dsimp only; omega)
                · exact (hGl2).trans hG62
                · refine ⟨?_, ?_, ?_, ?_, ?_⟩
                  · (try dsimp only) <;> (rw [List.length_append]; show _ + (_ + 1) = _; omega)
                  · (try dsimp only) <;> (exact hR3.step (by omega) hM62)
                  · (try dsimp only) <;> (exact fun _ => hbd c3.2)
                  · (try dsimp only) <;> (first | omega | rfl | assumption | (simp; done))
                  · (try dsimp only) <;> (exact hs62)
            · refine Go.Tan.b1 rfl Fx.se22 Fx.zw48 (.u rfl) rfl rfl (by decide) ?_; intro b63
              refine .nil ?_
              refine WoT.n1 0 (by kernel_rfl) ?_
              refine fz rfl .no FxVeDa.fo32_5 (.u rfl) ?_
              refine .nil ?_
              refine WoT.n1 1 (by kernel_rfl) ?_
              refine ld rfl .no Fx.ag22 (.u rfl) (fun _ => Rd.own (.there (.there (.there (.there .here)))) nine_a) ?_
              refine .nil ?_
              refine WoT.n1 5 (by kernel_rfl) ?_
              refine apS (xs := add) (m62) rfl Fx.se22 Fx.zw48 rfl (.u rfl) (.u rfl) (.there (.there (.there .here))) .here (Meta.len _) (Meta.one _) (by have := hbd c3.2; omega) (by have := hbd c3.2; unfold maxLen; omega) ?_; intro v64 ov64
              refine .nil ?_
              refine WoT.n1 6 (by kernel_rfl) ?_
              refine fz rfl .no FxVeDa.fo32_5 (.u rfl) ?_
              refine .nil ?_
              refine WoT.n1 7 (by kernel_rfl) ?_
              refine s1v rfl (.u rfl) (.u rfl) .here Fx.sz22 (.there (.there (.there (.there .here)))) (by first | decide | (simp only [List.length_append, nine_len, List.length_cons, List.length_nil]; omega)) (nine_sa) ?_
              refine .nil ?_
              refine WoT.last (by kernel_rfl) ?_
              refine .blk ?_
              refine .code ?_
              refine Wk.rg [0, 1, 2] rfl rfl ?_
              refine mv rfl .no (.u rfl) ?_
              refine ar rfl .no (.u rfl) (.u rfl) rfl (fun _ => wrap_u64 (by omega) (by omega)) ?_
              refine asg rfl .no (.u rfl) ?_
              refine .nil ?_
              refine We.lpo (n - 1, v64, L62, e62, s62, bad62, add ++ [m62]) ?_ ?_ ?_ ?_ ?_
              · exact (ESub.cons rfl (evi (by omega)) (ESub.cons rfl rfl (ESub.cons rfl rfl (ESub.cons rfl rfl ESub.nil))))
              · exact (MSub.cons (.there (.there (.there .here))) rfl (MSub.cons (.there (.there (.there .here))) rfl (MSub.cons (.there .here) rfl (MSub.cons .here rfl (MSub.cons (.there .here) rfl (MSub.cons (.there .here) rfl MSub.nil))))))
              · first | omega | (dsimp only; omega)
              · exact (hGl2).trans hG62
              · refine ⟨?_, ?_, ?_, ?_, ?_⟩
                · (try dsimp only) <;> (rw [List.length_append]; show _ + (_ + 1) = _; omega)
                · (try dsimp only) <;> (exact hR3.step (by omega) hM62)
                · (try dsimp only) <;> (exact fun _ => hbd c3.2)
                · (try dsimp only) <;> (first | omega | rfl | assumption | (simp; done))
                · (try dsimp only) <;> (exact hs62)
      · have c3k := c3
        try simp only [decide_eq_true_eq, decide_eq_false_iff_not, Int.not_lt, Int.not_le, gt_iff_lt, ge_iff_le, Bool.or_eq_true, Bool.and_eq_true, Bool.or_eq_false_iff, Bool.and_eq_false_iff, Bool.not_eq_true', Bool.not_eq_false', Int.toNat_natCast, bne_iff_ne, beq_iff_eq, bne_eq_false_iff_eq, beq_eq_false_iff_ne, ne_eq] at c3
        refine .exit ?_
        refine .xcode ?_
        refine .xlp ?_
        refine .xblk ?_
        refine .code ?_
        refine .seq ?_
        refine .seq ?_
        have hT2 := dec_c hT1 hR3 hn3 (by first | exact c3.imp (fun h => by omega) (fun h => h) | (rcases c3 with c3 | c3; (exact .inl (by omega)); (exact .inr (by simpa using c3))))
        refine wk_nilS 2 Gone.cells 51 ?_
        refine Wk.rg [0, 1, 2] rfl rfl ?_
        refine mv rfl .no (.u rfl) ?_
        refine ka rfl (.inr rfl) Fx.go37 (Eva.cons (.u rfl) (Eva.cons (.u rfl) Eva.nil)) (mtk2 (.there .here) (.there .here)) (upTo_ok L3 e3 bad3 s3 b15 b13 _ hsl3 (by omega) 1024) ?_
        rintro _ G67 μ67 hG67 ⟨n67, L67, e67, s67, bad67, hN67, hb67, rfl, rfl, hs67⟩
        have lL67 := rdnum_le hN67; have nL67 := rdnum_lt hN67; simp only at lL67
        have hs := hs.mono hG67
        have hs13 := hs13.mono hG67
        have hsl := hsl.mono hG67
        have hsl2 := hsl2.mono hG67
        have hs47 := hs47.mono hG67
        have hsl3 := hsl3.mono hG67
        refine asg rfl .no (.u rfl) ?_
        refine .nil ?_
        refine .code ?_
        refine .block ?_
        have hT3 := dec_d hT2 hN67 hb67
        refine Wk.lop (α := Nat × Value × List Y × Int × Sh × Bool × List Gone) (fun gh => [(10, true, .int .u64 (gh.1 : Int))]) (fun gh => [.blk b15 (cl [.pointer (some ⟨b13, 0, none⟩), .bool gh.2.2.2.2.2.1] 69), .blk b13 (cl [Sh.val gh.2.2.2.2.1 gh.2.2.1.length, .int .i64 gh.2.2.2.1] 101), rS 2 Gone.cells gh.2.1 51 gh.2.2.2.2.2.2, .blk b5 (cl (nine g2 ++ [va, gh.2.1]) 32)])
          (fun gh Gl => (gh.1 + gh.2.2.2.2.2.2.length = n67) ∧ (RpR (fun α => @pGone α) n67 ⟨L67, e67⟩ ⟨gh.2.2.1, gh.2.2.2.1⟩ bad67 gh.2.2.2.2.2.1 gh.2.2.2.2.2.2) ∧ (gh.2.2.2.2.2.1 = false → n67 ≤ 1024) ∧ (gh.2.2.1.length ≤ xs.length) ∧ (SlR Gl 1 encY gh.2.2.2.2.1 gh.2.2.1)) (fun gh => gh.1) (n67, .slice none 0 0, L67, e67, s67, bad67, []) [(2, true, _), (4, true, _), (5, true, _)] [_, _, _]
          (ESub.cons rfl rfl (ESub.cons rfl rfl (ESub.cons rfl rfl (ESub.cons rfl rfl ESub.nil))))
          (MSub.cons .here rfl (MSub.cons .here rfl (MSub.cons .here rfl (MSub.cons (.there .here) rfl (MSub.cons .here rfl (MSub.cons .here rfl (MSub.cons .here rfl MSub.nil))))))) ?_ ?_
        · refine ⟨?_, ?_, ?_, ?_, ?_⟩
          · (try dsimp only) <;> (first | omega | rfl | assumption | (simp; done))
          · (try dsimp only) <;> (exact RpR.zero)
          · (try dsimp only) <;> (exact fun h => up_le hb67 h)
          · (try dsimp only) <;> (first | omega | rfl | assumption | (simp; done))
          · (try dsimp only) <;> (exact hs67)
        intro gh N3 Gl3 hN3 hGl3 hF3
        obtain ⟨q, vd, L4, e4, s4, bad4, dr⟩ := gh; dsimp only at hF3 hN3 ⊢
        obtain ⟨hn4, hR4, hbd4, lL4, hsl4⟩ := hF3
        have hs := hs.mono hGl3
        have hs13 := hs13.mono hGl3
        have hsl := hsl.mono hGl3
        have hsl2 := hsl2.mono hGl3
        have hs47 := hs47.mono hGl3
        have hsl3 := hsl3.mono hGl3
        have hs67 := hs67.mono hGl3
        refine .seq ?_
        refine .seq ?_
        refine Wk.rg [0, 1, 2, 3, 4, 5, 6, 7, 8] rfl rfl ?_
        refine mv rfl .no (.u rfl) ?_
        refine cp rfl .no (.u rfl) (.u rfl) rfl ?_
        refine mv rfl .no (.u rfl) ?_
        refine mv rfl (.t rfl rfl) (.u rfl) ?_
        refine nc rfl (.t rfl rfl) (.s rfl) ?_
        refine fz rfl (.t rfl rfl) Fx.fo69_1 (.s rfl) ?_
        refine ld rfl (.t rfl rfl) Fx.ag4 (.s rfl) (fun hc => Rd.own .here (by first | exact wap_f rfl | rfl)) ?_
        refine nt rfl (.t rfl rfl) (.s rfl) ?_
        refine pkA rfl .no (.u rfl) (.s rfl) ?_
        refine .nil ?_
        refine .code ?_
        refine .cond rfl (fun c4 => ?_) (fun c4 => ?_)
        · have c4k := c4
          try simp only [decide_eq_true_eq, decide_eq_false_iff_not, Int.not_lt, Int.not_le, gt_iff_lt, ge_iff_le, Bool.or_eq_true, Bool.and_eq_true, Bool.or_eq_false_iff, Bool.and_eq_false_iff, Bool.not_eq_true', Bool.not_eq_false', Int.toNat_natCast, bne_iff_ne, beq_iff_eq, bne_eq_false_iff_eq, beq_eq_false_iff_ne, ne_eq] at c4
          refine .skip ?_
          refine .code ?_
          refine .seq ?_
          refine .block ?_
          refine .seq ?_
          refine Wk.rg [0, 1, 2, 3, 4, 5] rfl rfl ?_
          refine mv rfl .no (.u rfl) ?_
          refine ka rfl (.inr rfl) Fx.go37 (Eva.cons (.u rfl) (Eva.cons (.u rfl) Eva.nil)) (mtk2 .here .here) (upTo_ok L4 e4 bad4 s4 b15 b13 _ hsl4 (by omega) 255) ?_
          rintro _ G80 μ80 hG80 ⟨n80, L80, e80, s80, bad80, hN80, hb80, rfl, rfl, hs80⟩
          have lL80 := rdnum_le hN80; have nL80 := rdnum_lt hN80; simp only at lL80
          have hs := hs.mono hG80
          have hs13 := hs13.mono hG80
          have hsl := hsl.mono hG80
          have hsl2 := hsl2.mono hG80
          have hs47 := hs47.mono hG80
          have hsl3 := hsl3.mono hG80
          have hs67 := hs67.mono hG80
          have hsl4 := hsl4.mono hG80
          refine cv rfl .no Fx.cv24_5 (.u rfl) ?_
          refine bCe ([.int .u8 (IntKind.u8.wrap (n80 : Int)), .int .u64 0]) rfl .no Fx.bp51_0 (.cons (.u rfl) rfl .nil) rfl (rfl) ?_
          refine al rfl Fx.zr51 ?_; intro b11
          refine sw rfl (.u rfl) (.u rfl) rfl Fx.sz51 .here (by first | exact nine2_len | exact nine2_len.trans nine2_len.symm | rfl) (one2 rfl rfl) ?_
          refine .nil ?_
          refine .code ?_
          refine .seq ?_
          refine Wk.rg [0, 1, 2, 3, 4, 5, 6] rfl rfl ?_
          refine mv rfl .no (.u rfl) ?_
          refine nc rfl .no (.u rfl) ?_
          refine fz rfl .no Fx.fo69_0 (.u rfl) ?_
          refine ld rfl .no Fx.ag66 (.u rfl) (fun _ => Rd.own (.there .here) (by first | exact wap_f rfl | rfl)) ?_
          refine ka rfl (.inr rfl) Fx.go36 (Eva.cons (.u rfl) Eva.nil) (mtk1 (.there (.there .here))) (rNum_ok L80 e80 s80 b13 _ hs80 (by omega)) ?_
          rintro _ G87 μ87 hG87 ⟨n87, L87, e87, s87, hN87, rfl, rfl, hs87⟩
          have lL87 := rdnum_le hN87; have nL87 := rdnum_lt hN87; simp only at lL87
          have hs := hs.mono hG87
          have hs13 := hs13.mono hG87
          have hsl := hsl.mono hG87
          have hsl2 := hsl2.mono hG87
          have hs47 := hs47.mono hG87
          have hsl3 := hsl3.mono hG87
          have hs67 := hs67.mono hG87
          have hsl4 := hsl4.mono hG87
          have hs80 := hs80.mono hG87
          refine fz rfl .no Fx.fo51_1 (.u rfl) ?_
          refine s1 rfl (.u rfl) (.u rfl) rfl Fx.sz24 (.there .here) (by first | decide | (simp only [List.length_append, nine_len, List.length_cons, List.length_nil]; omega)) (rfl) ?_
          refine .nil ?_
          refine .code ?_
          refine Wk.rg [0, 1, 2, 3, 4, 5, 6] rfl rfl ?_
          refine fz rfl .no FxVeDa.fo32_6 (.u rfl) ?_
          refine ld rfl .no FxVeDa.ag30 (.u rfl) (fun _ => Rd.own (.there (.there (.there (.there .here)))) nine_d) ?_
          refine lA rfl .no Fx.ag51 (.u rfl) (fun _ => RdN.own .here) (fun _ => (by first | exact nine2_len | exact nine2_len.trans nine2_len.symm | rfl)) ?_
          refine Go.Tan.b1 rfl FxVeDa.se30 Fx.zv51 (.u rfl) rfl rfl (by decide) ?_; intro b92
          refine apS (xs := dr) ((⟨IntKind.u8.wrap (n80 : Int), (n87 : Int)⟩ : Gone)) rfl FxVeDa.se30 Fx.zv51 rfl (.u rfl) (.u rfl) (.there (.there (.there (.there .here)))) .here (rfl) (gones1) (by have := hbd4 c4.2; omega) (by have := hbd4 c4.2; unfold maxLen; omega) ?_; intro v93 ov93
          refine fz rfl .no FxVeDa.fo32_6 (.u rfl) ?_
          refine s1v rfl (.u rfl) (.u rfl) .here Fx.sz30 (.there (.there (.there (.there (.there .here))))) (by first | decide | (simp only [List.length_append, nine_len, List.length_cons, List.length_nil]; omega)) (nine_sd) ?_
          refine .nil ?_
          refine .blk ?_
          refine .code ?_
          refine Wk.rg [0, 1, 2] rfl rfl ?_
          refine mv rfl .no (.u rfl) ?_
          refine ar rfl .no (.u rfl) (.u rfl) rfl (fun _ => wrap_u64 (by omega) (by omega)) ?_
          refine asg rfl .no (.u rfl) ?_
          refine .nil ?_
          refine We.lpo (q - 1, v93, L87, e87, s87, bad80, dr ++ [⟨IntKind.u8.wrap (n80 : Int), (n87 : Int)⟩]) ?_ ?_ ?_ ?_ ?_
          · exact (ESub.cons rfl (evi (by omega)) (ESub.cons rfl rfl (ESub.cons rfl rfl (ESub.cons rfl rfl ESub.nil))))
          · exact (MSub.cons (.there (.there (.there (.there (.there .here))))) rfl (MSub.cons (.there (.there (.there (.there .here)))) rfl (MSub.cons (.there .here) rfl (MSub.cons .here rfl (MSub.cons (.there (.there .here)) rfl (MSub.cons (.there (.there .here)) rfl (MSub.cons (.there (.there .here)) rfl MSub.nil)))))))
          · first | omega | (dsimp only; omega)
          · exact ((hGl3).trans hG80).trans hG87
          · refine ⟨?_, ?_, ?_, ?_, ?_⟩
            · (try dsimp only) <;> (rw [List.length_append]; show _ + (_ + 1) = _; omega)
            · (try dsimp only) <;> (exact hR4.step (by omega) (goneT hN80 hb80 w_u8 hN87))
            · (try dsimp only) <;> (exact fun _ => hbd4 c4.2)
            · (try dsimp only) <;> (first | omega | rfl | assumption | (simp; done))
            · (try dsimp only) <;> (exact hs87)
        · have c4k := c4
          try simp only [decide_eq_true_eq, decide_eq_false_iff_not, Int.not_lt, Int.not_le, gt_iff_lt, ge_iff_le, Bool.or_eq_true, Bool.and_eq_true, Bool.or_eq_false_iff, Bool.and_eq_false_iff, Bool.not_eq_true', Bool.not_eq_false', Int.toNat_natCast, bne_iff_ne, beq_iff_eq, bne_eq_false_iff_eq, beq_eq_false_iff_ne, ne_eq] at c4
          refine .exit ?_
          refine .xcode ?_
          refine .xlp ?_
          refine .xblk ?_
          refine .code ?_
          refine .seq ?_
          refine .seq ?_
          have hT4 := dec_e hT3 hR4 hn4 (by first | exact c4.imp (fun h => by omega) (fun h => h) | (rcases c4 with c4 | c4; (exact .inl (by omega)); (exact .inr (by simpa using c4))))
          refine Wk.rg [0, 1, 2, 3, 4, 5, 6, 7, 8, 9, 10, 11] rfl rfl ?_
          refine mv rfl .no (.u rfl) ?_
          refine nc rfl .no (.u rfl) ?_
          refine fz rfl .no Fx.fo69_1 (.u rfl) ?_
          refine ld rfl .no Fx.ag4 (.u rfl) (fun _ => Rd.own .here (by first | exact wap_f rfl | rfl)) ?_
          refine mv rfl .no (.u rfl) ?_
          refine mv rfl (.f rfl rfl) (.u rfl) ?_
          refine nc rfl (.f rfl rfl) (.s rfl) ?_
          refine fz rfl (.f rfl rfl) Fx.fo69_0 (.s rfl) ?_
          refine ld rfl (.f rfl rfl) Fx.ag66 (.s rfl) (fun hc => Rd.own .here (by first | exact wap_f rfl | rfl)) ?_
          refine kp rfl (.f rfl rfl) Fx.go39 (Eva.cons (.s rfl) Eva.nil) (Gp.add (.there .here) Gp.nil) (fun hc hle hq => rEnd_ok L4 e4 s4 b13 _ RdNP.add) ?_
          refine cp rfl (.f rfl rfl) (.s rfl) (.u rfl) rfl ?_
          refine pkO rfl .no (.u rfl) (.s rfl) ?_
          refine .nil ?_
          refine .code ?_
          refine .cond rfl (fun c5 => ?_) (fun c5 => ?_)
          · have c5k := c5
            try simp only [decide_eq_true_eq, decide_eq_false_iff_not, Int.not_lt, Int.not_le, gt_iff_lt, ge_iff_le, Bool.or_eq_true, Bool.and_eq_true, Bool.or_eq_false_iff, Bool.and_eq_false_iff, Bool.not_eq_true', Bool.not_eq_false', Int.toNat_natCast, bne_iff_ne, beq_iff_eq, bne_eq_false_iff_eq, beq_eq_false_iff_ne, ne_eq] at c5
            refine .seq ?_
            refine Wk.rg [0, 1, 2] rfl rfl ?_
            refine bC rfl .no Fx.bp32_ .nil rfl ?_
            refine sw rfl (.u rfl) (.u rfl) rfl Fx.sz32 (.there (.there (.there (.there (.there (.there .here)))))) (by first | exact nine2_len | exact nine2_len.trans nine2_len.symm | rfl) (nine_one rfl rfl) ?_
            refine asg rfl .no (.u rfl) ?_
            refine .nil ?_
            refine .code ?_
            refine .ret ?_
            refine We.fin0 Try.results15 (.cell rfl (fun w hw => run_loadVarN Fx.ag32 (RdN.own .here) ((by first | exact nine2_len | exact nine2_len.trans nine2_len.symm | rfl)) hw) (.tmp rfl .nil)) ?_
            exact ⟨Edit.zero, 180, ⟨none, 0⟩, ⟨none, 0⟩, .inr ⟨dec_no hT4 (by first | exact c5.imp id id | simpa using c5k), rfl, rfl⟩, rfl, rfl, EdR.zero⟩
          · have c5k := c5
            try simp only [decide_eq_true_eq, decide_eq_false_iff_not, Int.not_lt, Int.not_le, gt_iff_lt, ge_iff_le, Bool.or_eq_true, Bool.and_eq_true, Bool.or_eq_false_iff, Bool.and_eq_false_iff, Bool.not_eq_true', Bool.not_eq_false', Int.toNat_natCast, bne_iff_ne, beq_iff_eq, bne_eq_false_iff_eq, beq_eq_false_iff_ne, ne_eq] at c5
            refine .skip ?_
            refine .code ?_
            refine .seq ?_
            refine wk_fs (.there (.there (.there (.there .here)))) (fun _ _ => rfl) (by intro b hb; cases hb) ?_; intro GfRA hRA hleRA evRA hsRA; subst evRA
            have hs := hs.mono hleRA
            have hs13 := hs13.mono hleRA
            have hsl := hsl.mono hleRA
            have hsl2 := hsl2.mono hleRA
            have hs47 := hs47.mono hleRA
            have hsl3 := hsl3.mono hleRA
            have hs67 := hs67.mono hleRA
            have hsl4 := hsl4.mono hleRA
            refine wk_fs (.there (.there .here)) (fun _ _ => rfl) (by intro b hb; cases hb) ?_; intro GfRD hRD hleRD evRD hsRD; subst evRD
            have hs := hs.mono hleRD
            have hs13 := hs13.mono hleRD
            have hsl := hsl.mono hleRD
            have hsl2 := hsl2.mono hleRD
            have hs47 := hs47.mono hleRD
            have hsl3 := hsl3.mono hleRD
            have hs67 := hs67.mono hleRD
            have hsl4 := hsl4.mono hleRD
            have hsRA := hsRA.mono hleRD
            refine Wk.rg [0, 1, 2] rfl rfl ?_
            refine lA rfl .no Fx.ag32 (.u rfl) (fun _ => RdN.own (.there (.there .here))) (fun _ => (by first | exact nine2_len | exact nine2_len.trans nine2_len.symm | rfl)) ?_
            refine sw rfl (.u rfl) (.u rfl) rfl Fx.sz32 (.there (.there (.there (.there .here)))) (by first | exact nine2_len | exact nine2_len.trans nine2_len.symm | rfl) (nine_one rfl rfl) ?_
            refine asg rfl .no (.u rfl) ?_
            refine .nil ?_
            refine .code ?_
            refine .ret ?_
            refine We.fin0 Try.results15 (.cell rfl (fun w hw => run_loadVarN Fx.ag32 (RdN.own .here) ((by first | exact nine2_len | exact nine2_len.trans nine2_len.symm | rfl)) hw) (.tmp rfl .nil)) ?_
            have hO := dec_yes hT4 (by simpa using c5.1) (by simpa using c5.2)
            exact ⟨_, 0, hRA, hRD, .inl ⟨hO, rfl⟩, rfl, by rw [Edit.val, ← edE_cells eg2]; rfl, ⟨hsRA, hsRD, (edit_inv hO).2.1⟩⟩

end Go.Proofs.Ytnhdaaggkdegpaa

namespace Go.Proofs.Ytnhdaaggkdegpaa
set_option linter.unusedSimpArgs false
set_option linter.unusedVariables false
open Go.Tan Go.RowKit

namespace Fx
end Fx
end Go.Proofs.Ytnhdaaggkdegpaa

namespace Go.Proofs.Ytnhdaaggkdegpaa
set_option linter.unusedSimpArgs false
set_option linter.unusedVariables false
open Go.Tan Go.RowKit

namespace Fx
theorem eqt48 : eqT Try.prog 4 48 (metaKs) = true := by kernel_rfl
end Fx
theorem sameMetas_ok (ha hb : Sh) (a b : List Meta) (G : PM) (hsa : SlR G 40 Meta.cells ha a) (hsb : SlR G 40 Meta.cells hb b) (hwa : ∀ m ∈ a, m.wf) (hwb : ∀ m ∈ b, m.wf) (hla : a.length ≤ 100000000000) : Ct Try.prog 24 ([ha.val a.length, hb.val b.length] : List Value).toArray G [] (fun _ μ' u => μ' = [] ∧ u = .bool (sameM a b)) := by
  refine Ct.of Try.func24 rfl Try.ntmps24 rfl fun w0 hs0 => ?_
  refine .seq ?_
  refine Wk.rg [0] rfl rfl ?_
  refine asg rfl .no (.u rfl) ?_
  refine .nil ?_
  refine .code ?_
  refine .seq ?_
  refine .seq ?_
  refine Wk.rg [0, 1, 2, 3, 4] rfl rfl ?_
  refine mv rfl .no (.u rfl) ?_
  refine ln rfl .no Fx.sn22 (.u rfl) ?_
  refine mv rfl .no (.u rfl) ?_
  refine ln rfl .no Fx.sn22 (.u rfl) ?_
  refine cp rfl .no (.u rfl) (.u rfl) rfl ?_
  refine .nil ?_
  refine .code ?_
  refine .cond rfl (fun c1 => ?_) (fun c1 => ?_)
  · have c1k := c1
    try simp only [decide_eq_true_eq, decide_eq_false_iff_not, Int.not_lt, Int.not_le, gt_iff_lt, ge_iff_le, Bool.or_eq_true, Bool.and_eq_true, Bool.or_eq_false_iff, Bool.not_eq_true', Bool.not_eq_false', Int.toNat_natCast, bne_iff_ne, beq_iff_eq, bne_eq_false_iff_eq, beq_eq_false_iff_ne, ne_eq] at c1
    refine .seq ?_
    refine Wk.rg [0] rfl rfl ?_
    refine asg rfl .no (.u rfl) ?_
    refine .nil ?_
    refine .code ?_
    refine .ret ?_
    refine We.fin0 Try.results24 (.tmp rfl .nil) ?_
    exact ⟨rfl, congrArg Value.bool (sameM_len (by simp at c1k; omega)).symm⟩
  · have c1k := c1
    try simp only [decide_eq_true_eq, decide_eq_false_iff_not, Int.not_lt, Int.not_le, gt_iff_lt, ge_iff_le, Bool.or_eq_true, Bool.and_eq_true, Bool.or_eq_false_iff, Bool.not_eq_true', Bool.not_eq_false', Int.toNat_natCast, bne_iff_ne, beq_iff_eq, bne_eq_false_iff_eq, beq_eq_false_iff_ne, ne_eq] at c1
    refine .skip ?_
    refine .code ?_
    refine .seq ?_
    refine .seq ?_
    refine Wk.rg [0] rfl rfl ?_
    refine asg rfl .no (.u rfl) ?_
    refine .nil ?_
    refine .code ?_
    refine .block ?_
    refine Wk.lop (α := Nat) (fun k => [(5, true, .int .i64 (k : Int))]) (fun _ => [])
      (fun k Gl => (k ≤ a.length) ∧ (∀ j, j < k → eqM (a.getD j Meta.zero) (b.getD j Meta.zero) = true)) (fun k => a.length - k) 0 [(0, true, _), (1, true, _)] []
      (ESub.cons rfl (by first | rfl | exact evi (by omega)) (ESub.cons rfl rfl (ESub.cons rfl rfl ESub.nil)))
      MSub.nil ?_ ?_
    · refine ⟨?_, ?_⟩
      · (try dsimp only) <;> (first | omega | rfl | assumption | (simp; done))
      · (try dsimp only) <;> (exact fun j hj => by omega)
    intro k N0 Gl0 hN0 hGl0 hF0
    try dsimp only at hF0 hN0 ⊢
    obtain ⟨hk, hq⟩ := hF0
    have hsa := hsa.mono hGl0
    have hsb := hsb.mono hGl0
    refine .seq ?_
    refine .seq ?_
    refine Wk.rg [0, 1, 2, 3] rfl rfl ?_
    refine mv rfl .no (.u rfl) ?_
    refine mv rfl .no (.u rfl) ?_
    refine ln rfl .no Fx.sn22 (.u rfl) ?_
    refine cp rfl .no (.u rfl) (.u rfl) rfl ?_
    refine .nil ?_
    refine .code ?_
    refine .cond rfl (fun c2 => ?_) (fun c2 => ?_)
    · have c2k := c2
      try simp only [decide_eq_true_eq, decide_eq_false_iff_not, Int.not_lt, Int.not_le, gt_iff_lt, ge_iff_le, Bool.or_eq_true, Bool.and_eq_true, Bool.or_eq_false_iff, Bool.not_eq_true', Bool.not_eq_false', Int.toNat_natCast, bne_iff_ne, beq_iff_eq, bne_eq_false_iff_eq, beq_eq_false_iff_ne, ne_eq] at c2
      refine .skip ?_
      refine .code ?_
      refine .seq ?_
      refine .block ?_
      refine .seq ?_
      refine Wk.draw (mc := ⟨false, false⟩) [0, 1, 2, 3, 4, 5, 6, 7, 8] Fx.mix (by kernel_rfl) ?_
      refine mv rfl .no (.u rfl) ?_
      refine mv rfl .no (.u rfl) ?_
      refine ih rfl .no Fx.se22 (.u rfl) (.u rfl) (fun _ => by omega) (fun _ => by omega) (fun _ => hsa.nn (k := k) (by first | omega | (simp only [Bool.and_eq_true, decide_eq_true_eq] at hc; omega) | (simp only [List.length_cons, List.length_nil]; omega))) ?_
      refine lA rfl .no Fx.ag48 (.u rfl) (fun _ => (hsa.gat k (by omega) (by omega)).rd) (fun _ => Meta.len _) ?_
      refine mv rfl .no (.u rfl) ?_
      refine mv rfl .no (.u rfl) ?_
      refine ih rfl .no Fx.se22 (.u rfl) (.u rfl) (fun _ => by omega) (fun _ => by omega) (fun _ => hsb.nn (k := k) (by first | omega | (simp only [Bool.and_eq_true, decide_eq_true_eq] at hc; omega) | (simp only [List.length_cons, List.length_nil]; omega))) ?_
      refine lA rfl .no Fx.ag48 (.u rfl) (fun _ => (hsb.gat k (by omega) (by omega)).rd) (fun _ => Meta.len _) ?_
      refine nqC (eqM (a.getD k Meta.zero) (b.getD k Meta.zero)) rfl .no Fx.eqt48 (.u rfl) (.u rfl) (fun _ => meta_conf (hwa _ (getD_mem (by omega)))) (fun _ => meta_conf (hwb _ (getD_mem (by omega)))) (fun _ => eqM_iff) ?_
      refine .nil ?_
      refine .code ?_
      refine .cond rfl (fun c3 => ?_) (fun c3 => ?_)
      · have c3k := c3
        try simp only [decide_eq_true_eq, decide_eq_false_iff_not, Int.not_lt, Int.not_le, gt_iff_lt, ge_iff_le, Bool.or_eq_true, Bool.and_eq_true, Bool.or_eq_false_iff, Bool.not_eq_true', Bool.not_eq_false', Int.toNat_natCast, bne_iff_ne, beq_iff_eq, bne_eq_false_iff_eq, beq_eq_false_iff_ne, ne_eq] at c3
        refine .seq ?_
        refine Wk.rg [0] rfl rfl ?_
        refine asg rfl .no (.u rfl) ?_
        refine .nil ?_
        refine .code ?_
        refine .ret ?_
        refine We.fin0 Try.results24 (.tmp rfl .nil) ?_
        exact ⟨rfl, congrArg Value.bool (sameM_no (k := k) (by omega) (by simp at c1k; omega) (by simpa using c3k)).symm⟩
      · have c3k := c3
        try simp only [decide_eq_true_eq, decide_eq_false_iff_not, Int.not_lt, Int.not_le, gt_iff_lt, ge_iff_le, Bool.or_eq_true, Bool.and_eq_true, Bool.or_eq_false_iff, Bool.not_eq_true', Bool.not_eq_false', Int.toNat_natCast, bne_iff_ne, beq_iff_eq, bne_eq_false_iff_eq, beq_eq_false_iff_ne, ne_eq] at c3
        refine .skip ?_
        refine .blk ?_
        refine .code ?_
        refine Wk.rg [0, 1, 2] rfl rfl ?_
        refine mv rfl .no (.u rfl) ?_
        refine arn (((k + 1) : Nat) : Int) rfl .no (.u rfl) (.u rfl) rfl (fun _ => by omega) (fun _ => wrap_i64 (by omega) (by omega)) ?_
        refine asg rfl .no (.u rfl) ?_
        refine .nil ?_
        refine We.lpo (k + 1) ?_ ?_ ?_ ?_ ?_
        · exact (ESub.cons rfl (by first | rfl | exact evi (by omega)) (ESub.cons rfl rfl (ESub.cons rfl rfl ESub.nil)))
        · exact MSub.nil
        · first | omega | (dsimp only; omega)
        · exact hGl0
        · refine ⟨?_, ?_⟩
          · (try dsimp only) <;> (first | omega | rfl | assumption | (simp; done))
          · (try dsimp only) <;> (exact fun j hj => by (by_cases e : j = k; (subst e; simpa using c3k); exact hq j (by omega)))
    · have c2k := c2
      try simp only [decide_eq_true_eq, decide_eq_false_iff_not, Int.not_lt, Int.not_le, gt_iff_lt, ge_iff_le, Bool.or_eq_true, Bool.and_eq_true, Bool.or_eq_false_iff, Bool.not_eq_true', Bool.not_eq_false', Int.toNat_natCast, bne_iff_ne, beq_iff_eq, bne_eq_false_iff_eq, beq_eq_false_iff_ne, ne_eq] at c2
      refine .exit ?_
      refine .xcode ?_
      refine .xlp ?_
      refine .xblk ?_
      refine .code ?_
      refine .seq ?_
      refine Wk.rg [0] rfl rfl ?_
      refine asg rfl .no (.u rfl) ?_
      refine .nil ?_
      refine .code ?_
      refine .ret ?_
      refine We.fin0 Try.results24 (.tmp rfl .nil) ?_
      exact ⟨rfl, congrArg Value.bool (sameM_yes (by simp at c1k; omega) (fun j hj => hq j (by omega))).symm⟩

end Go.Proofs.Ytnhdaaggkdegpaa

namespace Go.Proofs.Ytnhdaaggkdegpaa
set_option linter.unusedSimpArgs false
set_option linter.unusedVariables false
open Go.Tan Go.RowKit

namespace FxVerZ
theorem sn84 : (slE Try.prog 84).isSome = true := by kernel_rfl
theorem se84 : slE Try.prog 84 = some (24, 1, 8) := by kernel_rfl
end FxVerZ
namespace Fx
theorem fo32_5 : fOff Try.prog 32 5 = some 9 := by kernel_rfl
theorem fo32_6 : fOff Try.prog 32 6 = some 10 := by kernel_rfl
theorem ag30 : aggN Try.prog 30 = some none := by kernel_rfl
theorem se30 : slE Try.prog 30 = some (51, 2, 16) := by kernel_rfl
theorem sn30 : (slE Try.prog 30).isSome = true := by kernel_rfl
end Fx
theorem light_ok (s : State) (hd : Nat → Sh) (G : PM) (hs : StR G s hd) : Ct Try.prog 11 ([s.val hd] : List Value).toArray G [] (fun _ μ' u => μ' = [] ∧ u = .bool (decide (tot s 5 ≤ 300))) := by
  refine Ct.of Try.func11 rfl Try.ntmps11 rfl fun w0 hs0 => ?_
  refine .seq ?_
  refine Wk.rg [0, 1] rfl rfl ?_
  refine bx rfl (.u rfl) rfl ?_; intro b1
  refine asg rfl .no (.u rfl) ?_
  refine .nil ?_
  refine .code ?_
  refine .seq ?_
  refine Wk.rg [0] rfl rfl ?_
  refine asg rfl .no (.u rfl) ?_
  refine .nil ?_
  refine .code ?_
  refine .seq ?_
  refine .seq ?_
  refine Wk.rg [0] rfl rfl ?_
  refine mv rfl .no (.u rfl) ?_
  refine .nil ?_
  refine .code ?_
  refine .block ?_
  refine Wk.lop (α := Nat) (fun k => [(3, true, .int .i64 (300 - tot s k)), (5, true, .int .i64 (k : Int))]) (fun _ => [])
    (fun k Gl => k ≤ 5 ∧ tot s k ≤ 300) (fun k => 5 - k) 0 [(1, true, _)] [.blk b1 _]
    (ESub.cons rfl rfl (ESub.cons rfl rfl (ESub.cons rfl rfl ESub.nil)))
    (MSub.cons .here rfl MSub.nil) ?_ ?_
  · exact ⟨by omega, by simp [tot]⟩
  intro k N0 Gl0 hN0 hGl0 hF0
  try dsimp only at hF0 hN0 ⊢
  obtain ⟨hk, ht⟩ := hF0; have hn := tot_nonneg s k
  refine .seq ?_
  refine Wk.rg [0] rfl rfl ?_
  refine cp rfl .no (.u rfl) (.u rfl) rfl ?_
  refine .nil ?_
  refine .code ?_
  refine .seq ?_
  refine .cond rfl (fun c1 => ?_) (fun c1 => ?_)
  · have c1k := c1
    try simp only [decide_eq_true_eq, decide_eq_false_iff_not, Int.not_lt, Int.not_le, gt_iff_lt, ge_iff_le, Bool.or_eq_true, Bool.and_eq_true, Bool.or_eq_false_iff, Bool.not_eq_true', Bool.not_eq_false', Int.toNat_natCast] at c1
    refine .skip ?_
    refine .code ?_
    refine .seq ?_
    refine .block ?_
    refine .seq ?_
    refine Wk.rg [0, 1] rfl rfl ?_
    refine mv rfl .no (.u rfl) ?_
    refine asg rfl .no (.u rfl) ?_
    refine .nil ?_
    refine .code ?_
    refine .seq ?_
    refine .seq ?_
    refine Wk.rg [0, 1, 2, 3, 4, 5, 6] rfl rfl ?_
    refine mv rfl .no (.u rfl) ?_
    refine fz rfl .no Fx.fo27_0 (.u rfl) ?_
    refine iA rfl .no Fx.ar23 (.u rfl) (.u rfl) (fun _ => by omega) (fun _ => by omega) ?_
    refine ld rfl .no Fx.ag22 (.u rfl) (fun _ => Rd.own .here (s.cell_lv hd (k := k) (by omega))) ?_
    refine ln rfl .no Fx.sn22 (.u rfl) ?_
    refine mv rfl .no (.u rfl) ?_
    refine cp rfl .no (.u rfl) (.u rfl) rfl ?_
    refine .nil ?_
    refine .code ?_
    refine .cond rfl (fun c2 => ?_) (fun c2 => ?_)
    · have c2k := c2
      try simp only [decide_eq_true_eq, decide_eq_false_iff_not, Int.not_lt, Int.not_le, gt_iff_lt, ge_iff_le, Bool.or_eq_true, Bool.and_eq_true, Bool.or_eq_false_iff, Bool.not_eq_true', Bool.not_eq_false', Int.toNat_natCast] at c2
      refine .seq ?_
      refine Wk.rg [0] rfl rfl ?_
      refine asg rfl .no (.u rfl) ?_
      refine .nil ?_
      refine .code ?_
      refine .ret ?_
      refine We.fin0 Try.results11 (.tmp rfl .nil) ?_
      exact ⟨rfl, by have := tot_mono s (show k + 1 ≤ 5 by omega); rw [show tot s (k + 1) = tot s k + (s.lv k).length from rfl] at this; simp only [tup, Value.bool.injEq]; symm; rw [decide_eq_false_iff_not]; omega⟩
    · have c2k := c2
      try simp only [decide_eq_true_eq, decide_eq_false_iff_not, Int.not_lt, Int.not_le, gt_iff_lt, ge_iff_le, Bool.or_eq_true, Bool.and_eq_true, Bool.or_eq_false_iff, Bool.not_eq_true', Bool.not_eq_false', Int.toNat_natCast] at c2
      refine .skip ?_
      refine .code ?_
      refine Wk.rg [0, 1, 2, 3, 4, 5, 6, 7] rfl rfl ?_
      refine mv rfl .no (.u rfl) ?_
      refine mv rfl .no (.u rfl) ?_
      refine fz rfl .no Fx.fo27_0 (.u rfl) ?_
      refine iA rfl .no Fx.ar23 (.u rfl) (.u rfl) (fun _ => by omega) (fun _ => by omega) ?_
      refine ld rfl .no Fx.ag22 (.u rfl) (fun _ => Rd.own .here (s.cell_lv hd (k := k) (by omega))) ?_
      refine ln rfl .no Fx.sn22 (.u rfl) ?_
      refine ar rfl .no (.u rfl) (.u rfl) rfl (fun _ => wrap_i64 (by omega) (by omega)) ?_
      refine asg rfl .no (.u rfl) ?_
      refine .nil ?_
      refine .blk ?_
      refine .code ?_
      refine Wk.rg [0, 1] rfl rfl ?_
      refine ar rfl .no (.u rfl) (.u rfl) rfl (fun _ => wrap_i64 (by omega) (by omega)) ?_
      refine mv rfl .no (.u rfl) ?_
      refine .nil ?_
      refine We.lpo (k + 1) ?_ ?_ ?_ ?_ ?_
      · exact (ESub.cons rfl (congrArg _ (by simp only [tot]; omega)) (ESub.cons rfl rfl (ESub.cons rfl rfl ESub.nil)))
      · exact (MSub.cons .here rfl MSub.nil)
      · first | omega | (dsimp only; omega)
      · exact hGl0
      · exact ⟨by omega, by simp only [tot]; omega⟩
  · have c1k := c1
    try simp only [decide_eq_true_eq, decide_eq_false_iff_not, Int.not_lt, Int.not_le, gt_iff_lt, ge_iff_le, Bool.or_eq_true, Bool.and_eq_true, Bool.or_eq_false_iff, Bool.not_eq_true', Bool.not_eq_false', Int.toNat_natCast] at c1
    refine .exit ?_
    refine .xcode ?_
    refine .xlp ?_
    refine .xblk ?_
    refine .code ?_
    refine .seq ?_
    refine Wk.rg [0] rfl rfl ?_
    refine asg rfl .no (.u rfl) ?_
    refine .nil ?_
    refine .code ?_
    refine .ret ?_
    refine We.fin0 Try.results11 (.tmp rfl .nil) ?_
    exact ⟨rfl, by (obtain rfl : k = 5 := by omega); simp only [tup, Value.bool.injEq]; symm; rw [decide_eq_true_eq]; omega⟩

theorem few_ok (e : Edit) (ha hd : Sh) (G : PM) : Ct Try.prog 14 ([e.val ha hd] : List Value).toArray G [] (fun _ μ' u => μ' = [] ∧ u = .bool (decide ((e.add.length : Int) ≤ 300) && decide ((e.drop.length : Int) ≤ 300))) := by
  refine Ct.of Try.func14 rfl Try.ntmps14 rfl fun w0 hs0 => ?_
  refine .seq ?_
  refine Wk.rg [0, 1] rfl rfl ?_
  refine bx rfl (.u rfl) rfl ?_; intro b1
  refine asg rfl .no (.u rfl) ?_
  refine .nil ?_
  refine .code ?_
  refine .seq ?_
  refine Wk.rg [0, 1, 2, 3, 4, 5, 6, 7, 8, 9, 10] rfl rfl ?_
  refine fz rfl .no Fx.fo32_5 (.u rfl) ?_
  refine ld rfl .no Fx.ag22 (.u rfl) (fun _ => Rd.own .here rfl) ?_
  refine ln rfl .no Fx.sn22 (.u rfl) ?_
  refine cp rfl .no (.u rfl) (.u rfl) rfl ?_
  refine mv rfl .no (.u rfl) ?_
  refine fz rfl (.t rfl rfl) Fx.fo32_6 (.u rfl) ?_
  refine ld rfl (.t rfl rfl) Fx.ag30 (.s rfl) (fun hc => Rd.own .here rfl) ?_
  refine ln rfl (.t rfl rfl) Fx.sn30 (.s rfl) ?_
  refine cp rfl (.t rfl rfl) (.s rfl) (.u rfl) rfl ?_
  refine pkA rfl .no (.u rfl) (.s rfl) ?_
  refine asg rfl .no (.u rfl) ?_
  refine .nil ?_
  refine .code ?_
  refine .ret ?_
  refine We.fin0 Try.results14 (.tmp rfl .nil) ?_
  exact ⟨rfl, rfl⟩

end Go.Proofs.Ytnhdaaggkdegpaa

namespace Go.Proofs.Ytnhdaaggkdegpaa
set_option linter.unusedSimpArgs false
set_option linter.unusedVariables false
open Go.Tan Go.RowKit

namespace Fx
theorem zv24 : (Try.prog.info? 24).bind (·.zero) = some (.int .u64 0) := by kernel_rfl
theorem go44 : goFn Try.prog 44 = true := by kernel_rfl
theorem go45 : goFn Try.prog 45 = true := by kernel_rfl
theorem fo51_0 : fOff Try.prog 51 0 = some 0 := by kernel_rfl
end Fx
set_option maxHeartbeats 2000000 in
theorem encode_ok (e : Edit) (ha hd : Sh) (G : PM) (he : EdR G e ha hd) (hla : e.add.length ≤ 1000000) (hld : e.drop.length ≤ 1000000) (hlm : (e.add.flatMap encM).length ≤ 10000000000000) : Ct Try.prog 17 ([e.val ha hd] : List Value).toArray G [] (fun G' μ' u => ∃ (s : Sh) (L : List Y), L = encE e ∧ μ' = [] ∧ u = s.val L.length ∧ SlR G' 1 encY s L) := by
  refine Ct.of Try.func17 rfl Try.ntmps17 rfl fun w0 hs0 => ?_
  have hea := he.add; have hed := he.drop; have hw := he.wf; have hw1 := hw.log; have hw2 := hw.next; have hw3 := hw.seq; have hw4 := hw.least; have lgn : (gensL e).length = 5 := rfl
  refine .seq ?_
  refine Wk.rg [0, 1] rfl rfl ?_
  refine bx rfl (.u rfl) rfl ?_; intro b1
  refine asg rfl .no (.u rfl) ?_
  refine .nil ?_
  refine .code ?_
  refine .seq ?_
  refine wk_fz .here (by intro b hb; cases hb) ?_; intro Gfb1 hleb1 hbb1
  have hea := hea.mono hleb1
  have hed := hed.mono hleb1
  have hgn := gens_sl hbb1
  refine Wk.rg [0, 1, 2, 3, 4, 5, 6, 7, 8, 9, 10] rfl rfl ?_
  refine fa rfl .no Fx.fo32_0 (.u rfl) ?_
  refine ld rfl .no Fx.ag24 (.u rfl) (fun _ => (hbb1.rd (by rfl)).rd) ?_
  refine fa rfl .no Fx.fo32_1 (.u rfl) ?_
  refine ld rfl .no Fx.ag24 (.u rfl) (fun _ => (hbb1.rd (by rfl)).rd) ?_
  refine fa rfl .no Fx.fo32_2 (.u rfl) ?_
  refine ld rfl .no Fx.ag24 (.u rfl) (fun _ => (hbb1.rd (by rfl)).rd) ?_
  refine fa rfl .no Fx.fo32_3 (.u rfl) ?_
  refine ld rfl .no Fx.ag24 (.u rfl) (fun _ => (hbb1.rd (by rfl)).rd) ?_
  refine bQ [e.log, e.next, e.seq, e.least] rfl Fx.se84 Fx.zv24 (Evp.cons (.u rfl) (Evp.cons (.u rfl) (Evp.cons (.u rfl) (Evp.cons (.u rfl) Evp.nil)))) rfl rfl (by decide) ?_; intro G16 h16 hG16 hs16
  have hea := hea.mono hG16
  have hed := hed.mono hG16
  have hbb1 := hbb1.mono hG16
  have hgn := hgn.mono hG16
  refine kc rfl Fx.go44 (Eva.cons (.u rfl) (Eva.cons (.u rfl) Eva.nil)) (numbers_ok ([] : List Y) ⟨none, 0⟩ [e.log, e.next, e.seq, e.least] h16 _ SlR.nul hs16 (q4 hw1 hw2 hw3 hw4) (by simp only [List.length_cons, List.length_nil]; omega)) ?_
  rintro _ G17 μ17 hG17 ⟨h17, L17, eL17, rfl, rfl, hs17⟩
  have lL17 : L17.length ≤ ([] : List Y).length + 10 * ([e.log, e.next, e.seq, e.least] : List Int).length := by rw [eL17, List.length_append]; have := numsL_len (ns := [e.log, e.next, e.seq, e.least]) (q4 hw1 hw2 hw3 hw4); omega
  try simp only [List.length_cons, List.length_nil] at lL17
  have hea := hea.mono hG17
  have hed := hed.mono hG17
  have hbb1 := hbb1.mono hG17
  have hgn := hgn.mono hG17
  have hs16 := hs16.mono hG17
  refine asg rfl .no (.u rfl) ?_
  refine .nil ?_
  refine .code ?_
  refine .seq ?_
  refine Wk.mix ⟨false, false⟩ Fx.mix (by kernel_rfl) ?_
  refine Wt.one 0 (by kernel_rfl) ?_
  refine mv rfl .no (.u rfl) ?_
  refine .nil ?_
  refine Wt.one 1 (by kernel_rfl) ?_
  refine fa rfl .no Fx.fo32_4 (.u rfl) ?_
  refine .nil ?_
  refine Wt.one 2 (by kernel_rfl) ?_
  refine sa0 rfl .no Fx.ar25 (.u rfl) ?_
  refine .nil ?_
  refine Wt.one 4 (by kernel_rfl) ?_
  refine fa rfl .no Fx.fo32_5 (.u rfl) ?_
  refine .nil ?_
  refine Wt.one 5 (by kernel_rfl) ?_
  refine ld rfl .no Fx.ag22 (.u rfl) (fun _ => (hbb1.rd (by rfl)).rd) ?_
  refine .nil ?_
  refine Wt.one 6 (by kernel_rfl) ?_
  refine ln rfl .no Fx.sn22 (.u rfl) ?_
  refine .nil ?_
  refine Wt.one 7 (by kernel_rfl) ?_
  refine cw rfl .no Fx.cv3_24 (.u rfl) (fun _ => wrap_u64 (by omega) (by omega)) ?_
  refine .nil ?_
  refine Wt.b2 3 8 (by kernel_rfl) ?_ ?_
  · refine kc rfl Fx.go44 (Eva.cons (.u rfl) (Eva.cons (.u rfl) Eva.nil)) (numbers_ok L17 h17 (gensL e) ⟨some ⟨b1, 4, none⟩, 5⟩ _ hs17 hgn (gens_u hw) (by show _ + 10 * 5 ≤ _; omega)) ?_
    rintro _ G21 μ21 hG21 ⟨h21, L21, eL21, rfl, rfl, hs21⟩
    have lL21 : L21.length ≤ L17.length + 10 * ((gensL e) : List Int).length := by rw [eL21, List.length_append]; have := numsL_len (ns := (gensL e)) (gens_u hw); omega
    try simp only [List.length_cons, List.length_nil] at lL21
    have hea := hea.mono hG21
    have hed := hed.mono hG21
    have hbb1 := hbb1.mono hG21
    have hgn := hgn.mono hG21
    have hs16 := hs16.mono hG21
    have hs17 := hs17.mono hG21
    refine .nil ?_
    refine Wt.b1 8 (by kernel_rfl) ?_
    refine bQ [(e.add.length : Int)] rfl Fx.se84 Fx.zv24 (Evp.cons (.u rfl) Evp.nil) rfl rfl (by decide) ?_; intro G26 h26 hG26 hs26
    have hea := hea.mono hG26
    have hed := hed.mono hG26
    have hbb1 := hbb1.mono hG26
    have hgn := hgn.mono hG26
    have hs16 := hs16.mono hG26
    have hs17 := hs17.mono hG26
    have hs21 := hs21.mono hG26
    refine .nil ?_
    refine Wt.b1 9 (by kernel_rfl) ?_
    refine kc rfl Fx.go44 (Eva.cons (.u rfl) (Eva.cons (.u rfl) Eva.nil)) (numbers_ok L21 h21 [(e.add.length : Int)] h26 _ hs21 hs26 (q1 (u64_len (by omega))) (by simp only [List.length_cons, List.length_nil]; omega)) ?_
    rintro _ G27 μ27 hG27 ⟨h27, L27, eL27, rfl, rfl, hs27⟩
    have lL27 : L27.length ≤ L21.length + 10 * ([(e.add.length : Int)] : List Int).length := by rw [eL27, List.length_append]; have := numsL_len (ns := [(e.add.length : Int)]) (q1 (u64_len (by omega))); omega
    try simp only [List.length_cons, List.length_nil] at lL27
    have hea := hea.mono hG27
    have hed := hed.mono hG27
    have hbb1 := hbb1.mono hG27
    have hgn := hgn.mono hG27
    have hs16 := hs16.mono hG27
    have hs17 := hs17.mono hG27
    have hs21 := hs21.mono hG27
    have hs26 := hs26.mono hG27
    refine .nil ?_
    refine Wt.one 10 (by kernel_rfl) ?_
    refine asg rfl .no (.u rfl) ?_
    refine .nil ?_
    refine Wt.last (by kernel_rfl) ?_
    refine .code ?_
    refine .seq ?_
    refine .seq ?_
    refine Wk.rg [0, 1, 2, 3] rfl rfl ?_
    refine fa rfl .no Fx.fo32_5 (.u rfl) ?_
    refine ld rfl .no Fx.ag22 (.u rfl) (fun _ => (hbb1.rd (by rfl)).rd) ?_
    refine ln rfl .no Fx.sn22 (.u rfl) ?_
    refine mv rfl .no (.u rfl) ?_
    refine .nil ?_
    refine .code ?_
    refine .block ?_
    refine Wk.lop (α := Nat × Sh × List Y) (fun gh => [(3, true, gh.2.1.val gh.2.2.length), (31, true, .int .i64 (gh.1 : Int))]) (fun _ => [])
      (fun gh Gl => (gh.1 ≤ e.add.length) ∧ (gh.2.2 = L27 ++ (e.add.take gh.1).flatMap encM) ∧ (SlR Gl 1 encY gh.2.1 gh.2.2)) (fun gh => e.add.length - gh.1) (0, h27, L27) [(1, true, _), (29, true, _), (30, true, _)] []
      (ESub.cons rfl rfl (ESub.cons rfl (by first | rfl | exact evi (by omega)) (ESub.cons rfl rfl (ESub.cons rfl rfl (ESub.cons rfl rfl ESub.nil)))))
      MSub.nil ?_ ?_
    · refine ⟨?_, ?_, ?_⟩
      · (try dsimp only) <;> (first | omega | rfl | assumption | (simp; done))
      · (try dsimp only) <;> (simp)
      · (try dsimp only) <;> (exact hs27)
    intro gh N0 Gl0 hN0 hGl0 hF0
    obtain ⟨k, h3, L3⟩ := gh; dsimp only at hF0 hN0 ⊢
    obtain ⟨hk, eL, hsl⟩ := hF0
    have hea := hea.mono hGl0
    have hed := hed.mono hGl0
    have hbb1 := hbb1.mono hGl0
    have hgn := hgn.mono hGl0
    have hs16 := hs16.mono hGl0
    have hs17 := hs17.mono hGl0
    have hs21 := hs21.mono hGl0
    have hs26 := hs26.mono hGl0
    have hs27 := hs27.mono hGl0
    have lk := flat_take_le (f := encM) (xs := e.add) k
    have lL : L3.length = L27.length + ((e.add.take k).flatMap encM).length := by rw [eL, List.length_append]
    refine .seq ?_
    refine Wk.rg [0] rfl rfl ?_
    refine cp rfl .no (.u rfl) (.u rfl) rfl ?_
    refine .nil ?_
    refine .code ?_
    refine .seq ?_
    refine .cond rfl (fun c1 => ?_) (fun c1 => ?_)
    · have c1k := c1
      try simp only [decide_eq_true_eq, decide_eq_false_iff_not, Int.not_lt, Int.not_le, gt_iff_lt, ge_iff_le, Bool.or_eq_true, Bool.and_eq_true, Bool.or_eq_false_iff, Bool.not_eq_true', Bool.not_eq_false', Int.toNat_natCast, bne_iff_ne, beq_iff_eq, bne_eq_false_iff_eq, beq_eq_false_iff_ne, ne_eq] at c1
      refine .skip ?_
      refine .code ?_
      refine .seq ?_
      refine .block ?_
      refine .seq ?_
      refine Wk.rg [0, 1, 2, 3] rfl rfl ?_
      refine ih rfl .no Fx.se22 (.u rfl) (.u rfl) (fun _ => by omega) (fun _ => by omega) (fun _ => hea.nn (k := k) (by first | omega | (simp only [Bool.and_eq_true, decide_eq_true_eq] at hc; omega) | (simp only [List.length_cons, List.length_nil]; omega))) ?_
      obtain ⟨m, em⟩ := getx (k := k) (xs := e.add) (by omega)
      refine lA rfl .no Fx.ag48 (.u rfl) (fun _ => (hea.at (by omega) em).rd) (fun _ => Meta.len _) ?_
      refine al rfl Fx.zq48 ?_; intro b5
      refine sw rfl (.u rfl) (.u rfl) rfl Fx.sz48 .here rfl (Meta.one _) ?_
      refine .nil ?_
      refine .code ?_
      refine .seq ?_
      refine wk_fz .here (by intro b hb; cases hb) ?_; intro Gfb5 hleb5 hbb5
      have hea := hea.mono hleb5
      have hed := hed.mono hleb5
      have hbb1 := hbb1.mono hleb5
      have hgn := hgn.mono hleb5
      have hs16 := hs16.mono hleb5
      have hs17 := hs17.mono hleb5
      have hs21 := hs21.mono hleb5
      have hs26 := hs26.mono hleb5
      have hs27 := hs27.mono hleb5
      have hsl := hsl.mono hleb5
      have hwm := hw.add m (List.mem_of_getElem? em); have w1 := hwm.level; have w2 := hwm.gen; have w3 := hwm.epoch; have w4 := hwm.number; have l6 := u64_6 hwm; have lt := flat_take (f := encM) em; have lg := encM_ge m
      refine Wk.rg [0, 1, 2, 3, 4, 5, 6, 7, 8, 9, 10, 11, 12, 13, 14, 15, 16, 17, 18] rfl rfl ?_
      refine mv rfl .no (.u rfl) ?_
      refine fa rfl .no Fx.fo48_0 (.u rfl) ?_
      refine ld rfl .no Fx.ag5 (.u rfl) (fun _ => (hbb5.rd (by rfl)).rd) ?_
      refine cw rfl .no Fx.cv5_24 (.u rfl) (fun _ => wrap_u64 (by omega) (by omega)) ?_
      refine fa rfl .no Fx.fo48_1 (.u rfl) ?_
      refine ld rfl .no Fx.ag24 (.u rfl) (fun _ => (hbb5.rd (by rfl)).rd) ?_
      refine fa rfl .no Fx.fo48_2 (.u rfl) ?_
      refine ld rfl .no Fx.ag24 (.u rfl) (fun _ => (hbb5.rd (by rfl)).rd) ?_
      refine fa rfl .no Fx.fo48_3 (.u rfl) ?_
      refine ld rfl .no Fx.ag24 (.u rfl) (fun _ => (hbb5.rd (by rfl)).rd) ?_
      refine fa rfl .no Fx.fo48_4 (.u rfl) ?_
      refine ld rfl .no Fx.ag3 (.u rfl) (fun _ => (hbb5.rd (by rfl)).rd) ?_
      refine cv rfl .no Fx.cv3_24 (.u rfl) ?_
      refine fa rfl .no Fx.fo48_5 (.u rfl) ?_
      refine ld rfl .no Fx.ag3 (.u rfl) (fun _ => (hbb5.rd (by rfl)).rd) ?_
      refine cv rfl .no Fx.cv3_24 (.u rfl) ?_
      refine bQ [m.level, m.gen, m.epoch, m.number, IntKind.u64.wrap m.size, IntKind.u64.wrap m.count] rfl Fx.se84 Fx.zv24 (Evp.cons (.u rfl) (Evp.cons (.u rfl) (Evp.cons (.u rfl) (Evp.cons (.u rfl) (Evp.cons (.u rfl) (Evp.cons (.u rfl) Evp.nil)))))) rfl rfl (by decide) ?_; intro G51 h51 hG51 hs51
      have hea := hea.mono hG51
      have hed := hed.mono hG51
      have hbb1 := hbb1.mono hG51
      have hgn := hgn.mono hG51
      have hs16 := hs16.mono hG51
      have hs17 := hs17.mono hG51
      have hs21 := hs21.mono hG51
      have hs26 := hs26.mono hG51
      have hs27 := hs27.mono hG51
      have hsl := hsl.mono hG51
      have hbb5 := hbb5.mono hG51
      refine kc rfl Fx.go44 (Eva.cons (.u rfl) (Eva.cons (.u rfl) Eva.nil)) (numbers_ok L3 h3 [m.level, m.gen, m.epoch, m.number, IntKind.u64.wrap m.size, IntKind.u64.wrap m.count] h51 _ hsl hs51 l6 (by simp only [List.length_cons, List.length_nil]; omega)) ?_
      rintro _ G52 μ52 hG52 ⟨h52, L52, eL52, rfl, rfl, hs52⟩
      have lL52 : L52.length ≤ L3.length + 10 * ([m.level, m.gen, m.epoch, m.number, IntKind.u64.wrap m.size, IntKind.u64.wrap m.count] : List Int).length := by rw [eL52, List.length_append]; have := numsL_len (ns := [m.level, m.gen, m.epoch, m.number, IntKind.u64.wrap m.size, IntKind.u64.wrap m.count]) l6; omega
      try simp only [List.length_cons, List.length_nil] at lL52
      have hea := hea.mono hG52
      have hed := hed.mono hG52
      have hbb1 := hbb1.mono hG52
      have hgn := hgn.mono hG52
      have hs16 := hs16.mono hG52
      have hs17 := hs17.mono hG52
      have hs21 := hs21.mono hG52
      have hs26 := hs26.mono hG52
      have hs27 := hs27.mono hG52
      have hsl := hsl.mono hG52
      have hbb5 := hbb5.mono hG52
      have hs51 := hs51.mono hG52
      refine asg rfl .no (.u rfl) ?_
      refine .nil ?_
      refine .code ?_
      refine Wk.draw (mc := ⟨false, false⟩) [0, 1, 2, 4, 5, 7, 8, 3, 6, 9, 10] Fx.mix (by kernel_rfl) ?_
      refine mv rfl .no (.u rfl) ?_
      refine fa rfl .no Fx.fo48_6 (.u rfl) ?_
      refine ld rfl .no Fx.ag9 (.u rfl) (fun _ => (hbb5.rd (by rfl)).rd) ?_
      refine fa rfl .no Fx.fo48_7 (.u rfl) ?_
      refine ld rfl .no Fx.ag9 (.u rfl) (fun _ => (hbb5.rd (by rfl)).rd) ?_
      refine fa rfl .no Fx.fo48_8 (.u rfl) ?_
      refine kA rfl .no Fx.ar46 (.u rfl) hbb5 (meta_ba hwm) ?_; intro h61 L61 eL61 lL61 hs61
      have ly := yb_len m.min; have ly2 := yb_len m.max
      refine kc rfl Fx.go45 (Eva.cons (.u rfl) (Eva.cons (.u rfl) Eva.nil)) (Ct.frzB (Str_ok L52 h52 _ hs52 m.min (by omega))) ?_
      rintro _ G56 μ56 hG56 ⟨h56, L56, eL56, rfl, rfl, hs56⟩
      have hea := hea.mono hG56
      have hed := hed.mono hG56
      have hbb1 := hbb1.mono hG56
      have hgn := hgn.mono hG56
      have hs16 := hs16.mono hG56
      have hs17 := hs17.mono hG56
      have hs21 := hs21.mono hG56
      have hs26 := hs26.mono hG56
      have hs27 := hs27.mono hG56
      have hsl := hsl.mono hG56
      have hbb5 := hbb5.mono hG56
      have hs51 := hs51.mono hG56
      have hs52 := hs52.mono hG56
      have hs61 := hs61.mono hG56
      have l56 : L56.length ≤ L52.length + (m.min.size + 10) := by rw [eL56, List.length_append]; have := strL_len (xs := yb m.min) (by omega); omega
      refine kc rfl Fx.go45 (Eva.cons (.u rfl) (Eva.cons (.u rfl) Eva.nil)) (Ct.rowc (Str_ok L56 h56 _ hs56 m.max (by omega))) ?_
      rintro v59 G59 μ59 hG59 ⟨L59, ov59, eL59, rfl⟩
      have hea := hea.mono hG59
      have hed := hed.mono hG59
      have hbb1 := hbb1.mono hG59
      have hgn := hgn.mono hG59
      have hs16 := hs16.mono hG59
      have hs17 := hs17.mono hG59
      have hs21 := hs21.mono hG59
      have hs26 := hs26.mono hG59
      have hs27 := hs27.mono hG59
      have hsl := hsl.mono hG59
      have hbb5 := hbb5.mono hG59
      have hs51 := hs51.mono hG59
      have hs52 := hs52.mono hG59
      have hs61 := hs61.mono hG59
      have hs56 := hs56.mono hG59
      have l59 : L59.length ≤ L56.length + (m.max.size + 10) := by rw [eL59, List.length_append]; have := strL_len (xs := yb m.max) (by omega); omega
      refine apY rfl Fx.se33 Fx.zv5 (.u rfl) (.u rfl) .here hs61.sc (by (try simp only [List.length_append, List.length_cons, List.length_nil, yl_len]); omega) ?_
      intro v62 L62 ov62 eL62
      have lL62 : L62.length = L59.length + L61.length := by rw [eL62, List.length_append]
      refine asg rfl .no (.u rfl) ?_
      refine .nil ?_
      refine .blk ?_
      refine .code ?_
      refine wk_fb .here (by first | (intro b hb; cases hb; done) | simp [keys, Res.keys]) ?_; intro GfR59 hR59 hleR59 evR59 hsR59; subst evR59
      have hea := hea.mono hleR59
      have hed := hed.mono hleR59
      have hbb1 := hbb1.mono hleR59
      have hgn := hgn.mono hleR59
      have hs16 := hs16.mono hleR59
      have hs17 := hs17.mono hleR59
      have hs21 := hs21.mono hleR59
      have hs26 := hs26.mono hleR59
      have hs27 := hs27.mono hleR59
      have hsl := hsl.mono hleR59
      have hbb5 := hbb5.mono hleR59
      have hs51 := hs51.mono hleR59
      have hs52 := hs52.mono hleR59
      have hs61 := hs61.mono hleR59
      have hs56 := hs56.mono hleR59
      refine Wk.rg [0, 1] rfl rfl ?_
      refine arn (((k + 1) : Nat) : Int) rfl .no (.u rfl) (.u rfl) rfl (fun _ => by omega) (fun _ => wrap_i64 (by omega) (by omega)) ?_
      refine mv rfl .no (.u rfl) ?_
      refine .nil ?_
      refine We.lpo (k + 1, hR59, L62) ?_ ?_ ?_ ?_ ?_
      · exact (ESub.cons rfl rfl (ESub.cons rfl (by first | rfl | exact evi (by omega)) (ESub.cons rfl rfl (ESub.cons rfl rfl (ESub.cons rfl rfl ESub.nil)))))
      · exact MSub.nil
      · first | omega | (dsimp only; omega)
      · exact ((((((hGl0).trans hleb5).trans hG51).trans hG52).trans hG56).trans hG59).trans hleR59
      · refine ⟨?_, ?_, ?_⟩
        · (try dsimp only) <;> (first | omega | rfl | assumption | (simp; done))
        · (try dsimp only) <;> (rw [eL62, eL59, eL56, eL52, eL61, encM_eq, eL, flat_snoc em, List.append_assoc])
        · (try dsimp only) <;> (exact hsR59)
    · have c1k := c1
      try simp only [decide_eq_true_eq, decide_eq_false_iff_not, Int.not_lt, Int.not_le, gt_iff_lt, ge_iff_le, Bool.or_eq_true, Bool.and_eq_true, Bool.or_eq_false_iff, Bool.not_eq_true', Bool.not_eq_false', Int.toNat_natCast, bne_iff_ne, beq_iff_eq, bne_eq_false_iff_eq, beq_eq_false_iff_ne, ne_eq] at c1
      refine .exit ?_
      refine .xcode ?_
      refine .xlp ?_
      refine .xblk ?_
      refine .code ?_
      refine .seq ?_
      refine Wk.rg [0, 1, 2, 3, 4, 5, 6, 7] rfl rfl ?_
      refine mv rfl .no (.u rfl) ?_
      refine fa rfl .no Fx.fo32_6 (.u rfl) ?_
      refine ld rfl .no Fx.ag30 (.u rfl) (fun _ => (hbb1.rd (by rfl)).rd) ?_
      refine ln rfl .no Fx.sn30 (.u rfl) ?_
      refine cw rfl .no Fx.cv3_24 (.u rfl) (fun _ => wrap_u64 (by omega) (by omega)) ?_
      refine bQ [(e.drop.length : Int)] rfl Fx.se84 Fx.zv24 (Evp.cons (.u rfl) Evp.nil) rfl rfl (by decide) ?_; intro G69 h69 hG69 hs69
      have hea := hea.mono hG69
      have hed := hed.mono hG69
      have hbb1 := hbb1.mono hG69
      have hgn := hgn.mono hG69
      have hs16 := hs16.mono hG69
      have hs17 := hs17.mono hG69
      have hs21 := hs21.mono hG69
      have hs26 := hs26.mono hG69
      have hs27 := hs27.mono hG69
      have hsl := hsl.mono hG69
      refine kc rfl Fx.go44 (Eva.cons (.u rfl) (Eva.cons (.u rfl) Eva.nil)) (numbers_ok L3 h3 [(e.drop.length : Int)] h69 _ hsl hs69 (q1 (u64_len (by omega))) (by simp only [List.length_cons, List.length_nil]; omega)) ?_
      rintro _ G70 μ70 hG70 ⟨h70, L70, eL70, rfl, rfl, hs70⟩
      have lL70 : L70.length ≤ L3.length + 10 * ([(e.drop.length : Int)] : List Int).length := by rw [eL70, List.length_append]; have := numsL_len (ns := [(e.drop.length : Int)]) (q1 (u64_len (by omega))); omega
      try simp only [List.length_cons, List.length_nil] at lL70
      have hea := hea.mono hG70
      have hed := hed.mono hG70
      have hbb1 := hbb1.mono hG70
      have hgn := hgn.mono hG70
      have hs16 := hs16.mono hG70
      have hs17 := hs17.mono hG70
      have hs21 := hs21.mono hG70
      have hs26 := hs26.mono hG70
      have hs27 := hs27.mono hG70
      have hsl := hsl.mono hG70
      have hs69 := hs69.mono hG70
      refine asg rfl .no (.u rfl) ?_
      refine .nil ?_
      refine .code ?_
      refine .seq ?_
      refine .seq ?_
      refine Wk.rg [0, 1, 2, 3] rfl rfl ?_
      refine fa rfl .no Fx.fo32_6 (.u rfl) ?_
      refine ld rfl .no Fx.ag30 (.u rfl) (fun _ => (hbb1.rd (by rfl)).rd) ?_
      refine ln rfl .no Fx.sn30 (.u rfl) ?_
      refine mv rfl .no (.u rfl) ?_
      refine .nil ?_
      refine .code ?_
      refine .block ?_
      refine Wk.lop (α := Nat × Sh × List Y) (fun gh => [(3, true, gh.2.1.val gh.2.2.length), (74, true, .int .i64 (gh.1 : Int))]) (fun _ => [])
        (fun gh Gl => (gh.1 ≤ e.drop.length) ∧ (gh.2.2 = L70 ++ (e.drop.take gh.1).flatMap encG) ∧ (SlR Gl 1 encY gh.2.1 gh.2.2)) (fun gh => e.drop.length - gh.1) (0, h70, L70) [(72, true, _), (73, true, _)] []
        (ESub.cons rfl rfl (ESub.cons rfl (by first | rfl | exact evi (by omega)) (ESub.cons rfl rfl (ESub.cons rfl rfl ESub.nil))))
        MSub.nil ?_ ?_
      · refine ⟨?_, ?_, ?_⟩
        · (try dsimp only) <;> (first | omega | rfl | assumption | (simp; done))
        · (try dsimp only) <;> (simp)
        · (try dsimp only) <;> (exact hs70)
      intro gh N1 Gl1 hN1 hGl1 hF1
      obtain ⟨j, h9, L9⟩ := gh; dsimp only at hF1 hN1 ⊢
      obtain ⟨hj, eL9, hsl2⟩ := hF1
      have hea := hea.mono hGl1
      have hed := hed.mono hGl1
      have hbb1 := hbb1.mono hGl1
      have hgn := hgn.mono hGl1
      have hs16 := hs16.mono hGl1
      have hs17 := hs17.mono hGl1
      have hs21 := hs21.mono hGl1
      have hs26 := hs26.mono hGl1
      have hs27 := hs27.mono hGl1
      have hsl := hsl.mono hGl1
      have hs69 := hs69.mono hGl1
      have hs70 := hs70.mono hGl1
      have lk2 := flat_take_le (f := encG) (xs := e.drop) j
      have ld2 := gonesL hw.drop
      have lL9 : L9.length = L70.length + ((e.drop.take j).flatMap encG).length := by rw [eL9, List.length_append]
      refine .seq ?_
      refine Wk.rg [0] rfl rfl ?_
      refine cp rfl .no (.u rfl) (.u rfl) rfl ?_
      refine .nil ?_
      refine .code ?_
      refine .seq ?_
      refine .cond rfl (fun c2 => ?_) (fun c2 => ?_)
      · have c2k := c2
        try simp only [decide_eq_true_eq, decide_eq_false_iff_not, Int.not_lt, Int.not_le, gt_iff_lt, ge_iff_le, Bool.or_eq_true, Bool.and_eq_true, Bool.or_eq_false_iff, Bool.not_eq_true', Bool.not_eq_false', Int.toNat_natCast, bne_iff_ne, beq_iff_eq, bne_eq_false_iff_eq, beq_eq_false_iff_ne, ne_eq] at c2
        refine .skip ?_
        refine .code ?_
        refine .seq ?_
        refine .block ?_
        refine .seq ?_
        refine Wk.rg [0, 1, 2, 3] rfl rfl ?_
        refine ih rfl .no Fx.se30 (.u rfl) (.u rfl) (fun _ => by omega) (fun _ => by omega) (fun _ => hed.nn (k := j) (by first | omega | (simp only [Bool.and_eq_true, decide_eq_true_eq] at hc; omega) | (simp only [List.length_cons, List.length_nil]; omega))) ?_
        obtain ⟨g, eg⟩ := getx (k := j) (xs := e.drop) (by omega)
        refine lA rfl .no Fx.ag51 (.u rfl) (fun _ => (hed.at (by omega) eg).rd) (fun _ => rfl) ?_
        refine al rfl Fx.zr51 ?_; intro b7
        refine sw rfl (.u rfl) (.u rfl) rfl Fx.sz51 .here rfl (gones1) ?_
        refine .nil ?_
        refine .code ?_
        refine wk_fz .here (by intro b hb; cases hb) ?_; intro Gfb7 hleb7 hbb7
        have hea := hea.mono hleb7
        have hed := hed.mono hleb7
        have hbb1 := hbb1.mono hleb7
        have hgn := hgn.mono hleb7
        have hs16 := hs16.mono hleb7
        have hs17 := hs17.mono hleb7
        have hs21 := hs21.mono hleb7
        have hs26 := hs26.mono hleb7
        have hs27 := hs27.mono hleb7
        have hsl := hsl.mono hleb7
        have hs69 := hs69.mono hleb7
        have hs70 := hs70.mono hleb7
        have hsl2 := hsl2.mono hleb7
        have hwg := hw.drop g (List.mem_of_getElem? eg); have w1 := hwg.level; have w2 := hwg.number; have lt := flat_take (f := encG) eg
        refine Wk.rg [0, 1, 2, 3, 4, 5, 6, 7, 8] rfl rfl ?_
        refine mv rfl .no (.u rfl) ?_
        refine fa rfl .no Fx.fo51_0 (.u rfl) ?_
        refine ld rfl .no Fx.ag5 (.u rfl) (fun _ => (hbb7.rd (by rfl)).rd) ?_
        refine cw rfl .no Fx.cv5_24 (.u rfl) (fun _ => wrap_u64 (by omega) (by omega)) ?_
        refine fa rfl .no Fx.fo51_1 (.u rfl) ?_
        refine ld rfl .no Fx.ag24 (.u rfl) (fun _ => (hbb7.rd (by rfl)).rd) ?_
        refine bQ [g.level, g.number] rfl Fx.se84 Fx.zv24 (Evp.cons (.u rfl) (Evp.cons (.u rfl) Evp.nil)) rfl rfl (by decide) ?_; intro G84 h84 hG84 hs84
        have hea := hea.mono hG84
        have hed := hed.mono hG84
        have hbb1 := hbb1.mono hG84
        have hgn := hgn.mono hG84
        have hs16 := hs16.mono hG84
        have hs17 := hs17.mono hG84
        have hs21 := hs21.mono hG84
        have hs26 := hs26.mono hG84
        have hs27 := hs27.mono hG84
        have hsl := hsl.mono hG84
        have hs69 := hs69.mono hG84
        have hs70 := hs70.mono hG84
        have hsl2 := hsl2.mono hG84
        have hbb7 := hbb7.mono hG84
        refine kc rfl Fx.go44 (Eva.cons (.u rfl) (Eva.cons (.u rfl) Eva.nil)) (numbers_ok L9 h9 [g.level, g.number] h84 _ hsl2 hs84 (q2 ⟨by omega, by omega⟩ ⟨by omega, by omega⟩) (by simp only [List.length_cons, List.length_nil]; omega)) ?_
        rintro _ G85 μ85 hG85 ⟨h85, L85, eL85, rfl, rfl, hs85⟩
        have lL85 : L85.length ≤ L9.length + 10 * ([g.level, g.number] : List Int).length := by rw [eL85, List.length_append]; have := numsL_len (ns := [g.level, g.number]) (q2 ⟨by omega, by omega⟩ ⟨by omega, by omega⟩); omega
        try simp only [List.length_cons, List.length_nil] at lL85
        have hea := hea.mono hG85
        have hed := hed.mono hG85
        have hbb1 := hbb1.mono hG85
        have hgn := hgn.mono hG85
        have hs16 := hs16.mono hG85
        have hs17 := hs17.mono hG85
        have hs21 := hs21.mono hG85
        have hs26 := hs26.mono hG85
        have hs27 := hs27.mono hG85
        have hsl := hsl.mono hG85
        have hs69 := hs69.mono hG85
        have hs70 := hs70.mono hG85
        have hsl2 := hsl2.mono hG85
        have hbb7 := hbb7.mono hG85
        have hs84 := hs84.mono hG85
        refine asg rfl .no (.u rfl) ?_
        refine .nil ?_
        refine .blk ?_
        refine .code ?_
        refine Wk.rg [0, 1] rfl rfl ?_
        refine arn (((j + 1) : Nat) : Int) rfl .no (.u rfl) (.u rfl) rfl (fun _ => by omega) (fun _ => wrap_i64 (by omega) (by omega)) ?_
        refine mv rfl .no (.u rfl) ?_
        refine .nil ?_
        refine We.lpo (j + 1, h85, L85) ?_ ?_ ?_ ?_ ?_
        · exact (ESub.cons rfl rfl (ESub.cons rfl (by first | rfl | exact evi (by omega)) (ESub.cons rfl rfl (ESub.cons rfl rfl ESub.nil))))
        · exact MSub.nil
        · first | omega | (dsimp only; omega)
        · exact (((hGl1).trans hleb7).trans hG84).trans hG85
        · refine ⟨?_, ?_, ?_⟩
          · (try dsimp only) <;> (first | omega | rfl | assumption | (simp; done))
          · (try dsimp only) <;> (rw [eL85, encG_eq, eL9, flat_snoc eg, List.append_assoc])
          · (try dsimp only) <;> (exact hs85)
      · have c2k := c2
        try simp only [decide_eq_true_eq, decide_eq_false_iff_not, Int.not_lt, Int.not_le, gt_iff_lt, ge_iff_le, Bool.or_eq_true, Bool.and_eq_true, Bool.or_eq_false_iff, Bool.not_eq_true', Bool.not_eq_false', Int.toNat_natCast, bne_iff_ne, beq_iff_eq, bne_eq_false_iff_eq, beq_eq_false_iff_ne, ne_eq] at c2
        refine .exit ?_
        refine .xcode ?_
        refine .xlp ?_
        refine .xblk ?_
        refine .code ?_
        refine .seq ?_
        refine Wk.rg [0, 1] rfl rfl ?_
        refine mv rfl .no (.u rfl) ?_
        refine asg rfl .no (.u rfl) ?_
        refine .nil ?_
        refine .code ?_
        refine .ret ?_
        refine We.fin0 Try.results17 (.tmp rfl .nil) ?_
        obtain rfl : k = e.add.length := by omega
        obtain rfl : j = e.drop.length := by omega
        rw [List.take_length] at eL eL9
        exact ⟨h9, L9, by rw [eL9, eL70, eL, eL27, eL21, eL17, List.nil_append, encE_eq], rfl, rfl, hsl2⟩
  · refine bQ [(e.add.length : Int)] rfl Fx.se84 Fx.zv24 (Evp.cons (.u rfl) Evp.nil) rfl rfl (by decide) ?_; intro G26 h26 hG26 hs26
    have hea := hea.mono hG26
    have hed := hed.mono hG26
    have hbb1 := hbb1.mono hG26
    have hgn := hgn.mono hG26
    have hs16 := hs16.mono hG26
    have hs17 := hs17.mono hG26
    refine .nil ?_
    refine Wt.b1 3 (by kernel_rfl) ?_
    refine kc rfl Fx.go44 (Eva.cons (.u rfl) (Eva.cons (.u rfl) Eva.nil)) (numbers_ok L17 h17 (gensL e) ⟨some ⟨b1, 4, none⟩, 5⟩ _ hs17 hgn (gens_u hw) (by show _ + 10 * 5 ≤ _; omega)) ?_
    rintro _ G21 μ21 hG21 ⟨h21, L21, eL21, rfl, rfl, hs21⟩
    have lL21 : L21.length ≤ L17.length + 10 * ((gensL e) : List Int).length := by rw [eL21, List.length_append]; have := numsL_len (ns := (gensL e)) (gens_u hw); omega
    try simp only [List.length_cons, List.length_nil] at lL21
    have hea := hea.mono hG21
    have hed := hed.mono hG21
    have hbb1 := hbb1.mono hG21
    have hgn := hgn.mono hG21
    have hs16 := hs16.mono hG21
    have hs17 := hs17.mono hG21
    have hs26 := hs26.mono hG21
    refine .nil ?_
    refine Wt.b1 9 (by kernel_rfl) ?_
    refine kc rfl Fx.go44 (Eva.cons (.u rfl) (Eva.cons (.u rfl) Eva.nil)) (numbers_ok L21 h21 [(e.add.length : Int)] h26 _ hs21 hs26 (q1 (u64_len (by omega))) (by simp only [List.length_cons, List.length_nil]; omega)) ?_
    rintro _ G27 μ27 hG27 ⟨h27, L27, eL27, rfl, rfl, hs27⟩
    have lL27 : L27.length ≤ L21.length + 10 * ([(e.add.length : Int)] : List Int).length := by rw [eL27, List.length_append]; have := numsL_len (ns := [(e.add.length : Int)]) (q1 (u64_len (by omega))); omega
    try simp only [List.length_cons, List.length_nil] at lL27
    have hea := hea.mono hG27
    have hed := hed.mono hG27
    have hbb1 := hbb1.mono hG27
    have hgn := hgn.mono hG27
    have hs16 := hs16.mono hG27
    have hs17 := hs17.mono hG27
    have hs26 := hs26.mono hG27
    have hs21 := hs21.mono hG27
    refine .nil ?_
    refine Wt.one 10 (by kernel_rfl) ?_
    refine asg rfl .no (.u rfl) ?_
    refine .nil ?_
    refine Wt.last (by kernel_rfl) ?_
    refine .code ?_
    refine .seq ?_
    refine .seq ?_
    refine Wk.rg [0, 1, 2, 3] rfl rfl ?_
    refine fa rfl .no Fx.fo32_5 (.u rfl) ?_
    refine ld rfl .no Fx.ag22 (.u rfl) (fun _ => (hbb1.rd (by rfl)).rd) ?_
    refine ln rfl .no Fx.sn22 (.u rfl) ?_
    refine mv rfl .no (.u rfl) ?_
    refine .nil ?_
    refine .code ?_
    refine .block ?_
    refine Wk.lop (α := Nat × Sh × List Y) (fun gh => [(3, true, gh.2.1.val gh.2.2.length), (31, true, .int .i64 (gh.1 : Int))]) (fun _ => [])
      (fun gh Gl => (gh.1 ≤ e.add.length) ∧ (gh.2.2 = L27 ++ (e.add.take gh.1).flatMap encM) ∧ (SlR Gl 1 encY gh.2.1 gh.2.2)) (fun gh => e.add.length - gh.1) (0, h27, L27) [(1, true, _), (29, true, _), (30, true, _)] []
      (ESub.cons rfl rfl (ESub.cons rfl (by first | rfl | exact evi (by omega)) (ESub.cons rfl rfl (ESub.cons rfl rfl (ESub.cons rfl rfl ESub.nil)))))
      MSub.nil ?_ ?_
    · refine ⟨?_, ?_, ?_⟩
      · (try dsimp only) <;> (first | omega | rfl | assumption | (simp; done))
      · (try dsimp only) <;> (simp)
      · (try dsimp only) <;> (exact hs27)
    intro gh N0 Gl0 hN0 hGl0 hF0
    obtain ⟨k, h3, L3⟩ := gh; dsimp only at hF0 hN0 ⊢
    obtain ⟨hk, eL, hsl⟩ := hF0
    have hea := hea.mono hGl0
    have hed := hed.mono hGl0
    have hbb1 := hbb1.mono hGl0
    have hgn := hgn.mono hGl0
    have hs16 := hs16.mono hGl0
    have hs17 := hs17.mono hGl0
    have hs26 := hs26.mono hGl0
    have hs21 := hs21.mono hGl0
    have hs27 := hs27.mono hGl0
    have lk := flat_take_le (f := encM) (xs := e.add) k
    have lL : L3.length = L27.length + ((e.add.take k).flatMap encM).length := by rw [eL, List.length_append]
    refine .seq ?_
    refine Wk.rg [0] rfl rfl ?_
    refine cp rfl .no (.u rfl) (.u rfl) rfl ?_
    refine .nil ?_
    refine .code ?_
    refine .seq ?_
    refine .cond rfl (fun c1 => ?_) (fun c1 => ?_)
    · have c1k := c1
      try simp only [decide_eq_true_eq, decide_eq_false_iff_not, Int.not_lt, Int.not_le, gt_iff_lt, ge_iff_le, Bool.or_eq_true, Bool.and_eq_true, Bool.or_eq_false_iff, Bool.not_eq_true', Bool.not_eq_false', Int.toNat_natCast, bne_iff_ne, beq_iff_eq, bne_eq_false_iff_eq, beq_eq_false_iff_ne, ne_eq] at c1
      refine .skip ?_
      refine .code ?_
      refine .seq ?_
      refine .block ?_
      refine .seq ?_
      refine Wk.rg [0, 1, 2, 3] rfl rfl ?_
      refine ih rfl .no Fx.se22 (.u rfl) (.u rfl) (fun _ => by omega) (fun _ => by omega) (fun _ => hea.nn (k := k) (by first | omega | (simp only [Bool.and_eq_true, decide_eq_true_eq] at hc; omega) | (simp only [List.length_cons, List.length_nil]; omega))) ?_
      obtain ⟨m, em⟩ := getx (k := k) (xs := e.add) (by omega)
      refine lA rfl .no Fx.ag48 (.u rfl) (fun _ => (hea.at (by omega) em).rd) (fun _ => Meta.len _) ?_
      refine al rfl Fx.zq48 ?_; intro b5
      refine sw rfl (.u rfl) (.u rfl) rfl Fx.sz48 .here rfl (Meta.one _) ?_
      refine .nil ?_
      refine .code ?_
      refine .seq ?_
      refine wk_fz .here (by intro b hb; cases hb) ?_; intro Gfb5 hleb5 hbb5
      have hea := hea.mono hleb5
      have hed := hed.mono hleb5
      have hbb1 := hbb1.mono hleb5
      have hgn := hgn.mono hleb5
      have hs16 := hs16.mono hleb5
      have hs17 := hs17.mono hleb5
      have hs26 := hs26.mono hleb5
      have hs21 := hs21.mono hleb5
      have hs27 := hs27.mono hleb5
      have hsl := hsl.mono hleb5
      have hwm := hw.add m (List.mem_of_getElem? em); have w1 := hwm.level; have w2 := hwm.gen; have w3 := hwm.epoch; have w4 := hwm.number; have l6 := u64_6 hwm; have lt := flat_take (f := encM) em; have lg := encM_ge m
      refine Wk.rg [0, 1, 2, 3, 4, 5, 6, 7, 8, 9, 10, 11, 12, 13, 14, 15, 16, 17, 18] rfl rfl ?_
      refine mv rfl .no (.u rfl) ?_
      refine fa rfl .no Fx.fo48_0 (.u rfl) ?_
      refine ld rfl .no Fx.ag5 (.u rfl) (fun _ => (hbb5.rd (by rfl)).rd) ?_
      refine cw rfl .no Fx.cv5_24 (.u rfl) (fun _ => wrap_u64 (by omega) (by omega)) ?_
      refine fa rfl .no Fx.fo48_1 (.u rfl) ?_
      refine ld rfl .no Fx.ag24 (.u rfl) (fun _ => (hbb5.rd (by rfl)).rd) ?_
      refine fa rfl .no Fx.fo48_2 (.u rfl) ?_
      refine ld rfl .no Fx.ag24 (.u rfl) (fun _ => (hbb5.rd (by rfl)).rd) ?_
      refine fa rfl .no Fx.fo48_3 (.u rfl) ?_
      refine ld rfl .no Fx.ag24 (.u rfl) (fun _ => (hbb5.rd (by rfl)).rd) ?_
      refine fa rfl .no Fx.fo48_4 (.u rfl) ?_
      refine ld rfl .no Fx.ag3 (.u rfl) (fun _ => (hbb5.rd (by rfl)).rd) ?_
      refine cv rfl .no Fx.cv3_24 (.u rfl) ?_
      refine fa rfl .no Fx.fo48_5 (.u rfl) ?_
      refine ld rfl .no Fx.ag3 (.u rfl) (fun _ => (hbb5.rd (by rfl)).rd) ?_
      refine cv rfl .no Fx.cv3_24 (.u rfl) ?_
      refine bQ [m.level, m.gen, m.epoch, m.number, IntKind.u64.wrap m.size, IntKind.u64.wrap m.count] rfl Fx.se84 Fx.zv24 (Evp.cons (.u rfl) (Evp.cons (.u rfl) (Evp.cons (.u rfl) (Evp.cons (.u rfl) (Evp.cons (.u rfl) (Evp.cons (.u rfl) Evp.nil)))))) rfl rfl (by decide) ?_; intro G51 h51 hG51 hs51
      have hea := hea.mono hG51
      have hed := hed.mono hG51
      have hbb1 := hbb1.mono hG51
      have hgn := hgn.mono hG51
      have hs16 := hs16.mono hG51
      have hs17 := hs17.mono hG51
      have hs26 := hs26.mono hG51
      have hs21 := hs21.mono hG51
      have hs27 := hs27.mono hG51
      have hsl := hsl.mono hG51
      have hbb5 := hbb5.mono hG51
      refine kc rfl Fx.go44 (Eva.cons (.u rfl) (Eva.cons (.u rfl) Eva.nil)) (numbers_ok L3 h3 [m.level, m.gen, m.epoch, m.number, IntKind.u64.wrap m.size, IntKind.u64.wrap m.count] h51 _ hsl hs51 l6 (by simp only [List.length_cons, List.length_nil]; omega)) ?_
      rintro _ G52 μ52 hG52 ⟨h52, L52, eL52, rfl, rfl, hs52⟩
      have lL52 : L52.length ≤ L3.length + 10 * ([m.level, m.gen, m.epoch, m.number, IntKind.u64.wrap m.size, IntKind.u64.wrap m.count] : List Int).length := by rw [eL52, List.length_append]; have := numsL_len (ns := [m.level, m.gen, m.epoch, m.number, IntKind.u64.wrap m.size, IntKind.u64.wrap m.count]) l6; omega
      try simp only [List.length_cons, List.length_nil] at lL52
      have hea := hea.mono hG52
      have hed := hed.mono hG52
      have hbb1 := hbb1.mono hG52
      have hgn := hgn.mono hG52
      have hs16 := hs16.mono hG52
      have hs17 := hs17.mono hG52
      have hs26 := hs26.mono hG52
      have hs21 := hs21.mono hG52
      have hs27 := hs27.mono hG52
      have hsl := hsl.mono hG52
      have hbb5 := hbb5.mono hG52
      have hs51 := hs51.mono hG52
      refine asg rfl .no (.u rfl) ?_
      refine .nil ?_
      refine .code ?_
      refine Wk.draw (mc := ⟨false, false⟩) [0, 1, 2, 4, 5, 7, 8, 3, 6, 9, 10] Fx.mix (by kernel_rfl) ?_
      refine mv rfl .no (.u rfl) ?_
      refine fa rfl .no Fx.fo48_6 (.u rfl) ?_
      refine ld rfl .no Fx.ag9 (.u rfl) (fun _ => (hbb5.rd (by rfl)).rd) ?_
      refine fa rfl .no Fx.fo48_7 (.u rfl) ?_
      refine ld rfl .no Fx.ag9 (.u rfl) (fun _ => (hbb5.rd (by rfl)).rd) ?_
      refine fa rfl .no Fx.fo48_8 (.u rfl) ?_
      refine kA rfl .no Fx.ar46 (.u rfl) hbb5 (meta_ba hwm) ?_; intro h61 L61 eL61 lL61 hs61
      have ly := yb_len m.min; have ly2 := yb_len m.max
      refine kc rfl Fx.go45 (Eva.cons (.u rfl) (Eva.cons (.u rfl) Eva.nil)) (Ct.frzB (Str_ok L52 h52 _ hs52 m.min (by omega))) ?_
      rintro _ G56 μ56 hG56 ⟨h56, L56, eL56, rfl, rfl, hs56⟩
      have hea := hea.mono hG56
      have hed := hed.mono hG56
      have hbb1 := hbb1.mono hG56
      have hgn := hgn.mono hG56
      have hs16 := hs16.mono hG56
      have hs17 := hs17.mono hG56
      have hs26 := hs26.mono hG56
      have hs21 := hs21.mono hG56
      have hs27 := hs27.mono hG56
      have hsl := hsl.mono hG56
      have hbb5 := hbb5.mono hG56
      have hs51 := hs51.mono hG56
      have hs52 := hs52.mono hG56
      have hs61 := hs61.mono hG56
      have l56 : L56.length ≤ L52.length + (m.min.size + 10) := by rw [eL56, List.length_append]; have := strL_len (xs := yb m.min) (by omega); omega
      refine kc rfl Fx.go45 (Eva.cons (.u rfl) (Eva.cons (.u rfl) Eva.nil)) (Ct.rowc (Str_ok L56 h56 _ hs56 m.max (by omega))) ?_
      rintro v59 G59 μ59 hG59 ⟨L59, ov59, eL59, rfl⟩
      have hea := hea.mono hG59
      have hed := hed.mono hG59
      have hbb1 := hbb1.mono hG59
      have hgn := hgn.mono hG59
      have hs16 := hs16.mono hG59
      have hs17 := hs17.mono hG59
      have hs26 := hs26.mono hG59
      have hs21 := hs21.mono hG59
      have hs27 := hs27.mono hG59
      have hsl := hsl.mono hG59
      have hbb5 := hbb5.mono hG59
      have hs51 := hs51.mono hG59
      have hs52 := hs52.mono hG59
      have hs61 := hs61.mono hG59
      have hs56 := hs56.mono hG59
      have l59 : L59.length ≤ L56.length + (m.max.size + 10) := by rw [eL59, List.length_append]; have := strL_len (xs := yb m.max) (by omega); omega
      refine apY rfl Fx.se33 Fx.zv5 (.u rfl) (.u rfl) .here hs61.sc (by (try simp only [List.length_append, List.length_cons, List.length_nil, yl_len]); omega) ?_
      intro v62 L62 ov62 eL62
      have lL62 : L62.length = L59.length + L61.length := by rw [eL62, List.length_append]
      refine asg rfl .no (.u rfl) ?_
      refine .nil ?_
      refine .blk ?_
      refine .code ?_
      refine wk_fb .here (by first | (intro b hb; cases hb; done) | simp [keys, Res.keys]) ?_; intro GfR59 hR59 hleR59 evR59 hsR59; subst evR59
      have hea := hea.mono hleR59
      have hed := hed.mono hleR59
      have hbb1 := hbb1.mono hleR59
      have hgn := hgn.mono hleR59
      have hs16 := hs16.mono hleR59
      have hs17 := hs17.mono hleR59
      have hs26 := hs26.mono hleR59
      have hs21 := hs21.mono hleR59
      have hs27 := hs27.mono hleR59
      have hsl := hsl.mono hleR59
      have hbb5 := hbb5.mono hleR59
      have hs51 := hs51.mono hleR59
      have hs52 := hs52.mono hleR59
      have hs61 := hs61.mono hleR59
      have hs56 := hs56.mono hleR59
      refine Wk.rg [0, 1] rfl rfl ?_
      refine arn (((k + 1) : Nat) : Int) rfl .no (.u rfl) (.u rfl) rfl (fun _ => by omega) (fun _ => wrap_i64 (by omega) (by omega)) ?_
      refine mv rfl .no (.u rfl) ?_
      refine .nil ?_
      refine We.lpo (k + 1, hR59, L62) ?_ ?_ ?_ ?_ ?_
      · exact (ESub.cons rfl rfl (ESub.cons rfl (by first | rfl | exact evi (by omega)) (ESub.cons rfl rfl (ESub.cons rfl rfl (ESub.cons rfl rfl ESub.nil)))))
      · exact MSub.nil
      · first | omega | (dsimp only; omega)
      · exact ((((((hGl0).trans hleb5).trans hG51).trans hG52).trans hG56).trans hG59).trans hleR59
      · refine ⟨?_, ?_, ?_⟩
        · (try dsimp only) <;> (first | omega | rfl | assumption | (simp; done))
        · (try dsimp only) <;> (rw [eL62, eL59, eL56, eL52, eL61, encM_eq, eL, flat_snoc em, List.append_assoc])
        · (try dsimp only) <;> (exact hsR59)
    · have c1k := c1
      try simp only [decide_eq_true_eq, decide_eq_false_iff_not, Int.not_lt, Int.not_le, gt_iff_lt, ge_iff_le, Bool.or_eq_true, Bool.and_eq_true, Bool.or_eq_false_iff, Bool.not_eq_true', Bool.not_eq_false', Int.toNat_natCast, bne_iff_ne, beq_iff_eq, bne_eq_false_iff_eq, beq_eq_false_iff_ne, ne_eq] at c1
      refine .exit ?_
      refine .xcode ?_
      refine .xlp ?_
      refine .xblk ?_
      refine .code ?_
      refine .seq ?_
      refine Wk.rg [0, 1, 2, 3, 4, 5, 6, 7] rfl rfl ?_
      refine mv rfl .no (.u rfl) ?_
      refine fa rfl .no Fx.fo32_6 (.u rfl) ?_
      refine ld rfl .no Fx.ag30 (.u rfl) (fun _ => (hbb1.rd (by rfl)).rd) ?_
      refine ln rfl .no Fx.sn30 (.u rfl) ?_
      refine cw rfl .no Fx.cv3_24 (.u rfl) (fun _ => wrap_u64 (by omega) (by omega)) ?_
      refine bQ [(e.drop.length : Int)] rfl Fx.se84 Fx.zv24 (Evp.cons (.u rfl) Evp.nil) rfl rfl (by decide) ?_; intro G69 h69 hG69 hs69
      have hea := hea.mono hG69
      have hed := hed.mono hG69
      have hbb1 := hbb1.mono hG69
      have hgn := hgn.mono hG69
      have hs16 := hs16.mono hG69
      have hs17 := hs17.mono hG69
      have hs26 := hs26.mono hG69
      have hs21 := hs21.mono hG69
      have hs27 := hs27.mono hG69
      have hsl := hsl.mono hG69
      refine kc rfl Fx.go44 (Eva.cons (.u rfl) (Eva.cons (.u rfl) Eva.nil)) (numbers_ok L3 h3 [(e.drop.length : Int)] h69 _ hsl hs69 (q1 (u64_len (by omega))) (by simp only [List.length_cons, List.length_nil]; omega)) ?_
      rintro _ G70 μ70 hG70 ⟨h70, L70, eL70, rfl, rfl, hs70⟩
      have lL70 : L70.length ≤ L3.length + 10 * ([(e.drop.length : Int)] : List Int).length := by rw [eL70, List.length_append]; have := numsL_len (ns := [(e.drop.length : Int)]) (q1 (u64_len (by omega))); omega
      try simp only [List.length_cons, List.length_nil] at lL70
      have hea := hea.mono hG70
      have hed := hed.mono hG70
      have hbb1 := hbb1.mono hG70
      have hgn := hgn.mono hG70
      have hs16 := hs16.mono hG70
      have hs17 := hs17.mono hG70
      have hs26 := hs26.mono hG70
      have hs21 := hs21.mono hG70
      have hs27 := hs27.mono hG70
      have hsl := hsl.mono hG70
      have hs69 := hs69.mono hG70
      refine asg rfl .no (.u rfl) ?_
      refine .nil ?_
      refine .code ?_
      refine .seq ?_
      refine .seq ?_
      refine Wk.rg [0, 1, 2, 3] rfl rfl ?_
      refine fa rfl .no Fx.fo32_6 (.u rfl) ?_
      refine ld rfl .no Fx.ag30 (.u rfl) (fun _ => (hbb1.rd (by rfl)).rd) ?_
      refine ln rfl .no Fx.sn30 (.u rfl) ?_
      refine mv rfl .no (.u rfl) ?_
      refine .nil ?_
      refine .code ?_
      refine .block ?_
      refine Wk.lop (α := Nat × Sh × List Y) (fun gh => [(3, true, gh.2.1.val gh.2.2.length), (74, true, .int .i64 (gh.1 : Int))]) (fun _ => [])
        (fun gh Gl => (gh.1 ≤ e.drop.length) ∧ (gh.2.2 = L70 ++ (e.drop.take gh.1).flatMap encG) ∧ (SlR Gl 1 encY gh.2.1 gh.2.2)) (fun gh => e.drop.length - gh.1) (0, h70, L70) [(72, true, _), (73, true, _)] []
        (ESub.cons rfl rfl (ESub.cons rfl (by first | rfl | exact evi (by omega)) (ESub.cons rfl rfl (ESub.cons rfl rfl ESub.nil))))
        MSub.nil ?_ ?_
      · refine ⟨?_, ?_, ?_⟩
        · (try dsimp only) <;> (first | omega | rfl | assumption | (simp; done))
        · (try dsimp only) <;> (simp)
        · (try dsimp only) <;> (exact hs70)
      intro gh N1 Gl1 hN1 hGl1 hF1
      obtain ⟨j, h9, L9⟩ := gh; dsimp only at hF1 hN1 ⊢
      obtain ⟨hj, eL9, hsl2⟩ := hF1
      have hea := hea.mono hGl1
      have hed := hed.mono hGl1
      have hbb1 := hbb1.mono hGl1
      have hgn := hgn.mono hGl1
      have hs16 := hs16.mono hGl1
      have hs17 := hs17.mono hGl1
      have hs26 := hs26.mono hGl1
      have hs21 := hs21.mono hGl1
      have hs27 := hs27.mono hGl1
      have hsl := hsl.mono hGl1
      have hs69 := hs69.mono hGl1
      have hs70 := hs70.mono hGl1
      have lk2 := flat_take_le (f := encG) (xs := e.drop) j
      have ld2 := gonesL hw.drop
      have lL9 : L9.length = L70.length + ((e.drop.take j).flatMap encG).length := by rw [eL9, List.length_append]
      refine .seq ?_
      refine Wk.rg [0] rfl rfl ?_
      refine cp rfl .no (.u rfl) (.u rfl) rfl ?_
      refine .nil ?_
      refine .code ?_
      refine .seq ?_
      refine .cond rfl (fun c2 => ?_) (fun c2 => ?_)
      · have c2k := c2
        try simp only [decide_eq_true_eq, decide_eq_false_iff_not, Int.not_lt, Int.not_le, gt_iff_lt, ge_iff_le, Bool.or_eq_true, Bool.and_eq_true, Bool.or_eq_false_iff, Bool.not_eq_true', Bool.not_eq_false', Int.toNat_natCast, bne_iff_ne, beq_iff_eq, bne_eq_false_iff_eq, beq_eq_false_iff_ne, ne_eq] at c2
        refine .skip ?_
        refine .code ?_
        refine .seq ?_
        refine .block ?_
        refine .seq ?_
        refine Wk.rg [0, 1, 2, 3] rfl rfl ?_
        refine ih rfl .no Fx.se30 (.u rfl) (.u rfl) (fun _ => by omega) (fun _ => by omega) (fun _ => hed.nn (k := j) (by first | omega | (simp only [Bool.and_eq_true, decide_eq_true_eq] at hc; omega) | (simp only [List.length_cons, List.length_nil]; omega))) ?_
        obtain ⟨g, eg⟩ := getx (k := j) (xs := e.drop) (by omega)
        refine lA rfl .no Fx.ag51 (.u rfl) (fun _ => (hed.at (by omega) eg).rd) (fun _ => rfl) ?_
        refine al rfl Fx.zr51 ?_; intro b7
        refine sw rfl (.u rfl) (.u rfl) rfl Fx.sz51 .here rfl (gones1) ?_
        refine .nil ?_
        refine .code ?_
        refine wk_fz .here (by intro b hb; cases hb) ?_; intro Gfb7 hleb7 hbb7
        have hea := hea.mono hleb7
        have hed := hed.mono hleb7
        have hbb1 := hbb1.mono hleb7
        have hgn := hgn.mono hleb7
        have hs16 := hs16.mono hleb7
        have hs17 := hs17.mono hleb7
        have hs26 := hs26.mono hleb7
        have hs21 := hs21.mono hleb7
        have hs27 := hs27.mono hleb7
        have hsl := hsl.mono hleb7
        have hs69 := hs69.mono hleb7
        have hs70 := hs70.mono hleb7
        have hsl2 := hsl2.mono hleb7
        have hwg := hw.drop g (List.mem_of_getElem? eg); have w1 := hwg.level; have w2 := hwg.number; have lt := flat_take (f := encG) eg
        refine Wk.rg [0, 1, 2, 3, 4, 5, 6, 7, 8] rfl rfl ?_
        refine mv rfl .no (.u rfl) ?_
        refine fa rfl .no Fx.fo51_0 (.u rfl) ?_
        refine ld rfl .no Fx.ag5 (.u rfl) (fun _ => (hbb7.rd (by rfl)).rd) ?_
        refine cw rfl .no Fx.cv5_24 (.u rfl) (fun _ => wrap_u64 (by omega) (by omega)) ?_
        refine fa rfl .no Fx.fo51_1 (.u rfl) ?_
        refine ld rfl .no Fx.ag24 (.u rfl) (fun _ => (hbb7.rd (by rfl)).rd) ?_
        refine bQ [g.level, g.number] rfl Fx.se84 Fx.zv24 (Evp.cons (.u rfl) (Evp.cons (.u rfl) Evp.nil)) rfl rfl (by decide) ?_; intro G84 h84 hG84 hs84
        have hea := hea.mono hG84
        have hed := hed.mono hG84
        have hbb1 := hbb1.mono hG84
        have hgn := hgn.mono hG84
        have hs16 := hs16.mono hG84
        have hs17 := hs17.mono hG84
        have hs26 := hs26.mono hG84
        have hs21 := hs21.mono hG84
        have hs27 := hs27.mono hG84
        have hsl := hsl.mono hG84
        have hs69 := hs69.mono hG84
        have hs70 := hs70.mono hG84
        have hsl2 := hsl2.mono hG84
        have hbb7 := hbb7.mono hG84
        refine kc rfl Fx.go44 (Eva.cons (.u rfl) (Eva.cons (.u rfl) Eva.nil)) (numbers_ok L9 h9 [g.level, g.number] h84 _ hsl2 hs84 (q2 ⟨by omega, by omega⟩ ⟨by omega, by omega⟩) (by simp only [List.length_cons, List.length_nil]; omega)) ?_
        rintro _ G85 μ85 hG85 ⟨h85, L85, eL85, rfl, rfl, hs85⟩
        have lL85 : L85.length ≤ L9.length + 10 * ([g.level, g.number] : List Int).length := by rw [eL85, List.length_append]; have := numsL_len (ns := [g.level, g.number]) (q2 ⟨by omega, by omega⟩ ⟨by omega, by omega⟩); omega
        try simp only [List.length_cons, List.length_nil] at lL85
        have hea := hea.mono hG85
        have hed := hed.mono hG85
        have hbb1 := hbb1.mono hG85
        have hgn := hgn.mono hG85
        have hs16 := hs16.mono hG85
        have hs17 := hs17.mono hG85
        have hs26 := hs26.mono hG85
        have hs21 := hs21.mono hG85
        have hs27 := hs27.mono hG85
        have hsl := hsl.mono hG85
        have hs69 := hs69.mono hG85
        have hs70 := hs70.mono hG85
        have hsl2 := hsl2.mono hG85
        have hbb7 := hbb7.mono hG85
        have hs84 := hs84.mono hG85
        refine asg rfl .no (.u rfl) ?_
        refine .nil ?_
        refine .blk ?_
        refine .code ?_
        refine Wk.rg [0, 1] rfl rfl ?_
        refine arn (((j + 1) : Nat) : Int) rfl .no (.u rfl) (.u rfl) rfl (fun _ => by omega) (fun _ => wrap_i64 (by omega) (by omega)) ?_
        refine mv rfl .no (.u rfl) ?_
        refine .nil ?_
        refine We.lpo (j + 1, h85, L85) ?_ ?_ ?_ ?_ ?_
        · exact (ESub.cons rfl rfl (ESub.cons rfl (by first | rfl | exact evi (by omega)) (ESub.cons rfl rfl (ESub.cons rfl rfl ESub.nil))))
        · exact MSub.nil
        · first | omega | (dsimp only; omega)
        · exact (((hGl1).trans hleb7).trans hG84).trans hG85
        · refine ⟨?_, ?_, ?_⟩
          · (try dsimp only) <;> (first | omega | rfl | assumption | (simp; done))
          · (try dsimp only) <;> (rw [eL85, encG_eq, eL9, flat_snoc eg, List.append_assoc])
          · (try dsimp only) <;> (exact hs85)
      · have c2k := c2
        try simp only [decide_eq_true_eq, decide_eq_false_iff_not, Int.not_lt, Int.not_le, gt_iff_lt, ge_iff_le, Bool.or_eq_true, Bool.and_eq_true, Bool.or_eq_false_iff, Bool.not_eq_true', Bool.not_eq_false', Int.toNat_natCast, bne_iff_ne, beq_iff_eq, bne_eq_false_iff_eq, beq_eq_false_iff_ne, ne_eq] at c2
        refine .exit ?_
        refine .xcode ?_
        refine .xlp ?_
        refine .xblk ?_
        refine .code ?_
        refine .seq ?_
        refine Wk.rg [0, 1] rfl rfl ?_
        refine mv rfl .no (.u rfl) ?_
        refine asg rfl .no (.u rfl) ?_
        refine .nil ?_
        refine .code ?_
        refine .ret ?_
        refine We.fin0 Try.results17 (.tmp rfl .nil) ?_
        obtain rfl : k = e.add.length := by omega
        obtain rfl : j = e.drop.length := by omega
        rw [List.take_length] at eL eL9
        exact ⟨h9, L9, by rw [eL9, eL70, eL, eL27, eL21, eL17, List.nil_append, encE_eq], rfl, rfl, hsl2⟩

end Go.Proofs.Ytnhdaaggkdegpaa

namespace Go.Proofs.Ytnhdaaggkdegpaa
set_option linter.unusedSimpArgs false
set_option linter.unusedVariables false
open Go.Tan Go.RowKit

namespace Fx
end Fx
end Go.Proofs.Ytnhdaaggkdegpaa

namespace Go.Proofs.Ytnhdaaggkdegpaa
set_option linter.unusedSimpArgs false
set_option linter.unusedVariables false
open Go.Tan Go.RowKit

namespace Fx
end Fx
end Go.Proofs.Ytnhdaaggkdegpaa

namespace Go.Proofs.Ytnhdaaggkdegpaa
set_option linter.unusedSimpArgs false
set_option linter.unusedVariables false
open Go.Tan Go.RowKit

namespace Fx
theorem bp51_0_1 : bPl Try.prog 51 [0, 1] = some ([.int .u8 0, .int .u64 0], [(0, 1), (1, 1)]) := by kernel_rfl
end Fx
end Go.Proofs.Ytnhdaaggkdegpaa

namespace Go.Proofs.Ytnhdaaggkdegpaa
set_option linter.unusedSimpArgs false
set_option linter.unusedVariables false
open Go.Tan Go.RowKit

namespace Fx
theorem ag25 : aggN Try.prog 25 = some (some 5) := by kernel_rfl
theorem go51 : goFn Try.prog 51 = true := by kernel_rfl
theorem zq27 : zrL Try.prog 27 = some ((State.zero.cells hd0)) := by kernel_rfl
theorem go12 : goFn Try.prog 12 = true := by kernel_rfl
theorem go48 : goFn Try.prog 48 = true := by kernel_rfl
theorem bp27_1_2_3_4_5_0 : bPl Try.prog 27 [1, 2, 3, 4, 5, 0] = some ((State.zero.cells hd0), [(5, 1), (6, 1), (7, 1), (8, 1), (9, 5), (0, 5)]) := by kernel_rfl
theorem sz27 : szT Try.prog 27 = some 14 := by kernel_rfl
theorem go49 : goFn Try.prog 49 = true := by kernel_rfl
theorem go50 : goFn Try.prog 50 = true := by kernel_rfl
theorem bp27_ : bPl Try.prog 27 [] = some ((State.zero.cells hd0), []) := by kernel_rfl
end Fx
theorem before_ok (s : State) (hd : Nat → Sh) (G : PM) (e : Edit) (ha he : Sh) : Ct Try.prog 48 ([s.val hd, e.val ha he] : List Value).toArray G [] (fun _ μ' u => μ' = [] ∧ u = .bool (beforeB s e)) := by
  refine Ct.of Try.func48 rfl Try.ntmps48 rfl fun w0 hs0 => ?_
  refine .seq ?_
  refine Wk.rg [0, 1, 2] rfl rfl ?_
  refine bx rfl (.u rfl) rfl ?_; intro b2
  refine bx rfl (.u rfl) rfl ?_; intro b3
  refine asg rfl .no (.u rfl) ?_
  refine .nil ?_
  refine .code ?_
  refine .seq ?_
  refine .seq ?_
  refine Wk.rg [0, 1, 2] rfl rfl ?_
  refine fz rfl .no Fx.fo32_4 (.u rfl) ?_
  refine lA rfl .no Fx.ag25 (.u rfl) (fun _ => RdN.part (n := 5) (cs' := (List.range 5).map (fun i => .int .u64 (e.gens i))) .here (rfl)) (fun _ => rfl) ?_
  refine mv rfl .no (.u rfl) ?_
  refine .nil ?_
  refine .code ?_
  refine .block ?_
  refine Wk.lop (α := Nat) (fun k => [(9, true, .int .i64 (k : Int))]) (fun _ => [])
    (fun k Gl => (k ≤ 5) ∧ (∀ i, i < k → ¬ e.gens i < s.gens i)) (fun k => 5 - k) 0 [(2, true, _), (3, true, _), (8, true, _)] [_, _]
    (ESub.cons rfl (by first | rfl | exact evi (by omega)) (ESub.cons rfl rfl (ESub.cons rfl rfl (ESub.cons rfl rfl ESub.nil))))
    (MSub.cons .here rfl (MSub.cons .here rfl MSub.nil)) ?_ ?_
  · refine ⟨?_, ?_⟩
    · (try dsimp only) <;> (first | omega | rfl | assumption | (simp; done))
    · (try dsimp only) <;> (exact fun i hi => by omega)
  intro k N0 Gl0 hN0 hGl0 hF0
  try dsimp only at hF0 hN0 ⊢
  obtain ⟨hk, hn⟩ := hF0
  refine .seq ?_
  refine Wk.rg [0] rfl rfl ?_
  refine cp rfl .no (.u rfl) (.u rfl) rfl ?_
  refine .nil ?_
  refine .code ?_
  refine .seq ?_
  refine .cond rfl (fun c1 => ?_) (fun c1 => ?_)
  · have c1k := c1
    try simp only [decide_eq_true_eq, decide_eq_false_iff_not, Int.not_lt, Int.not_le, gt_iff_lt, ge_iff_le, Bool.or_eq_true, Bool.and_eq_true, Bool.or_eq_false_iff, Bool.not_eq_true', Bool.not_eq_false', Int.toNat_natCast, bne_iff_ne, beq_iff_eq, bne_eq_false_iff_eq, beq_eq_false_iff_ne, ne_eq] at c1
    refine .skip ?_
    refine .code ?_
    refine .seq ?_
    refine .block ?_
    refine .seq ?_
    refine Wk.rg [0, 1, 2, 3] rfl rfl ?_
    refine mv rfl .no (.u rfl) ?_
    refine ix rfl .no Fx.ar25 Fx.ag24 (.u rfl) (.u rfl) (fun _ => by omega) (fun _ => by omega) (fun _ => (gens_at (k := k) (by omega) (by omega))) ?_
    refine asg rfl .no (.u rfl) ?_
    refine asg rfl .no (.u rfl) ?_
    refine .nil ?_
    refine .code ?_
    refine .seq ?_
    refine Wk.rg [0, 1, 2, 3, 4, 5] rfl rfl ?_
    refine mv rfl .no (.u rfl) ?_
    refine mv rfl .no (.u rfl) ?_
    refine fz rfl .no Fx.fo27_5 (.u rfl) ?_
    refine iA rfl .no Fx.ar25 (.u rfl) (.u rfl) (fun _ => by omega) (fun _ => by omega) ?_
    refine ld rfl .no Fx.ag24 (.u rfl) (fun _ => Rd.own (.there .here) (by exact s.cell_gen hd (k := k) (by omega))) ?_
    refine cp rfl .no (.u rfl) (.u rfl) rfl ?_
    refine .nil ?_
    refine .code ?_
    refine .cond rfl (fun c2 => ?_) (fun c2 => ?_)
    · have c2k := c2
      try simp only [decide_eq_true_eq, decide_eq_false_iff_not, Int.not_lt, Int.not_le, gt_iff_lt, ge_iff_le, Bool.or_eq_true, Bool.and_eq_true, Bool.or_eq_false_iff, Bool.not_eq_true', Bool.not_eq_false', Int.toNat_natCast, bne_iff_ne, beq_iff_eq, bne_eq_false_iff_eq, beq_eq_false_iff_ne, ne_eq] at c2
      refine .seq ?_
      refine Wk.rg [0] rfl rfl ?_
      refine asg rfl .no (.u rfl) ?_
      refine .nil ?_
      refine .code ?_
      refine .ret ?_
      refine We.fin0 Try.results48 (.tmp rfl .nil) ?_
      exact ⟨rfl, congrArg Value.bool (bef_yes (i := k) (by omega) (by omega)).symm⟩
    · have c2k := c2
      try simp only [decide_eq_true_eq, decide_eq_false_iff_not, Int.not_lt, Int.not_le, gt_iff_lt, ge_iff_le, Bool.or_eq_true, Bool.and_eq_true, Bool.or_eq_false_iff, Bool.not_eq_true', Bool.not_eq_false', Int.toNat_natCast, bne_iff_ne, beq_iff_eq, bne_eq_false_iff_eq, beq_eq_false_iff_ne, ne_eq] at c2
      refine .skip ?_
      refine .blk ?_
      refine .code ?_
      refine Wk.rg [0, 1] rfl rfl ?_
      refine arn (((k + 1) : Nat) : Int) rfl .no (.u rfl) (.u rfl) rfl (fun _ => by omega) (fun _ => wrap_i64 (by omega) (by omega)) ?_
      refine mv rfl .no (.u rfl) ?_
      refine .nil ?_
      refine We.lpo (k + 1) ?_ ?_ ?_ ?_ ?_
      · exact (ESub.cons rfl (by first | rfl | exact evi (by omega)) (ESub.cons rfl rfl (ESub.cons rfl rfl (ESub.cons rfl rfl ESub.nil))))
      · exact (MSub.cons .here rfl (MSub.cons .here rfl MSub.nil))
      · first | omega | (dsimp only; omega)
      · exact hGl0
      · refine ⟨?_, ?_⟩
        · (try dsimp only) <;> (first | omega | rfl | assumption | (simp; done))
        · (try dsimp only) <;> (exact fun i hi => by (by_cases h : i = k; (subst h; omega); exact hn i (by omega)))
  · have c1k := c1
    try simp only [decide_eq_true_eq, decide_eq_false_iff_not, Int.not_lt, Int.not_le, gt_iff_lt, ge_iff_le, Bool.or_eq_true, Bool.and_eq_true, Bool.or_eq_false_iff, Bool.not_eq_true', Bool.not_eq_false', Int.toNat_natCast, bne_iff_ne, beq_iff_eq, bne_eq_false_iff_eq, beq_eq_false_iff_ne, ne_eq] at c1
    refine .exit ?_
    refine .xcode ?_
    refine .xlp ?_
    refine .xblk ?_
    refine .code ?_
    refine .seq ?_
    refine Wk.rg [0, 1, 2, 3, 4, 5, 6, 7, 8, 9, 10, 11, 12, 13, 14, 15, 16, 17, 18, 19, 20, 21, 22, 23, 24, 25, 26] rfl rfl ?_
    refine fz rfl .no Fx.fo32_0 (.u rfl) ?_
    refine ld rfl .no Fx.ag24 (.u rfl) (fun _ => Rd.own .here (by first | exact wap_f rfl | rfl)) ?_
    refine fz rfl .no Fx.fo27_1 (.u rfl) ?_
    refine ld rfl .no Fx.ag24 (.u rfl) (fun _ => Rd.own (.there .here) (by first | exact wap_f rfl | rfl)) ?_
    refine cp rfl .no (.u rfl) (.u rfl) rfl ?_
    refine mv rfl .no (.u rfl) ?_
    refine fz rfl (.f rfl rfl) Fx.fo32_1 (.u rfl) ?_
    refine ld rfl (.f rfl rfl) Fx.ag24 (.s rfl) (fun hc => Rd.own .here (by first | exact wap_f rfl | rfl)) ?_
    refine fz rfl (.f rfl rfl) Fx.fo27_2 (.u rfl) ?_
    refine ld rfl (.f rfl rfl) Fx.ag24 (.s rfl) (fun hc => Rd.own (.there .here) (by first | exact wap_f rfl | rfl)) ?_
    refine cp rfl (.f rfl rfl) (.s rfl) (.s rfl) rfl ?_
    refine pkO rfl .no (.u rfl) (.s rfl) ?_
    refine mv rfl .no (.u rfl) ?_
    refine fz rfl (.f rfl rfl) Fx.fo32_2 (.u rfl) ?_
    refine ld rfl (.f rfl rfl) Fx.ag24 (.s rfl) (fun hc => Rd.own .here (by first | exact wap_f rfl | rfl)) ?_
    refine fz rfl (.f rfl rfl) Fx.fo27_3 (.u rfl) ?_
    refine ld rfl (.f rfl rfl) Fx.ag24 (.s rfl) (fun hc => Rd.own (.there .here) (by first | exact wap_f rfl | rfl)) ?_
    refine cp rfl (.f rfl rfl) (.s rfl) (.s rfl) rfl ?_
    refine pkO rfl .no (.u rfl) (.s rfl) ?_
    refine mv rfl .no (.u rfl) ?_
    refine fz rfl (.f rfl rfl) Fx.fo32_3 (.u rfl) ?_
    refine ld rfl (.f rfl rfl) Fx.ag24 (.s rfl) (fun hc => Rd.own .here (by first | exact wap_f rfl | rfl)) ?_
    refine fz rfl (.f rfl rfl) Fx.fo27_4 (.u rfl) ?_
    refine ld rfl (.f rfl rfl) Fx.ag24 (.s rfl) (fun hc => Rd.own (.there .here) (by first | exact wap_f rfl | rfl)) ?_
    refine cp rfl (.f rfl rfl) (.s rfl) (.s rfl) rfl ?_
    refine pkO rfl .no (.u rfl) (.s rfl) ?_
    refine asg rfl .no (.u rfl) ?_
    refine .nil ?_
    refine .code ?_
    refine .ret ?_
    refine We.fin0 Try.results48 (.tmp rfl .nil) ?_
    exact ⟨rfl, congrArg Value.bool (bef_no (fun i hi => hn i (by omega))).symm⟩

theorem clone0_ok (G : PM) : Ct Try.prog 49 ([.slice none 0 0] : List Value).toArray G [] (fun _ μ' u => μ' = [] ∧ u = .slice none 0 0) := by
  refine Ct.of Try.func49 rfl Try.ntmps49 rfl fun w0 hs0 => ?_
  refine .seq ?_
  refine Wk.rg [0] rfl rfl ?_
  refine asg rfl .no (.u rfl) ?_
  refine .nil ?_
  refine .code ?_
  refine .seq ?_
  refine .seq ?_
  refine Wk.rg [0, 1] rfl rfl ?_
  refine mv rfl .no (.u rfl) ?_
  refine sn0 (s := ⟨none, 0⟩) (m := 0) rfl .no Fx.sn22 (.u rfl) (.u rfl) ?_
  refine .nil ?_
  refine .code ?_
  refine .cond rfl (fun c1 => ?_) (fun c1 => ?_)
  · have c1k := c1
    try simp only [decide_eq_true_eq, decide_eq_false_iff_not, Int.not_lt, Int.not_le, gt_iff_lt, ge_iff_le, Bool.or_eq_true, Bool.and_eq_true, Bool.or_eq_false_iff, Bool.not_eq_true', Bool.not_eq_false', Int.toNat_natCast, bne_iff_ne, beq_iff_eq, bne_eq_false_iff_eq, beq_eq_false_iff_ne, ne_eq] at c1
    refine .seq ?_
    refine Wk.rg [0] rfl rfl ?_
    refine asg rfl .no (.u rfl) ?_
    refine .nil ?_
    refine .code ?_
    refine .ret ?_
    refine We.fin0 Try.results49 (.tmp rfl .nil) ?_
    exact ⟨rfl, rfl⟩
  · have c1k := c1
    cases c1

set_option maxHeartbeats 1000000 in
theorem apply0_ok (h : Sh) (G : PM) (hs : SlR G 2 Gone.cells h [Gone.zero]) : Ct Try.prog 20 ([State.zero.val hd0, edit1.val ⟨none, 0⟩ h] : List Value).toArray G [] (fun _ μ' u => μ' = [] ∧ u = .tuple #[State.zero.val hd0, .int .i64 180]) := by
  refine Ct.of Try.func20 rfl Try.ntmps20 rfl fun w0 hs0 => ?_
  have ea : edit1.add.length = 0 := rfl; have ed : edit1.drop.length = 1 := rfl; have ez : Gone.zero.level = 0 := rfl
  refine .seq ?_
  refine Wk.rg [0, 1, 2, 3] rfl rfl ?_
  refine bx rfl (.u rfl) rfl ?_; intro b2
  refine bx rfl (.u rfl) rfl ?_; intro b3
  refine al rfl Fx.zq27 ?_; intro b4
  refine asg rfl .no (.u rfl) ?_
  refine .nil ?_
  refine .code ?_
  refine .seq ?_
  refine .seq ?_
  refine Wk.rg [0, 1, 2] rfl rfl ?_
  refine lA rfl .no Fx.ag27 (.u rfl) (fun _ => RdN.own (.there (.there .here))) (fun _ => (by first | exact State.len | exact State.len.trans State.len.symm | exact Edit.len | exact Edit.len.trans Edit.len.symm | exact nine2_len | exact nine2_len.trans State.len.symm | rfl)) ?_
  refine kv rfl .no Fx.go12 (Eva.cons (.u rfl) Eva.nil) (fun _ => vRight_ok State.zero hd0 _ st_zero) ?_
  refine nt rfl .no (.u rfl) ?_
  refine .nil ?_
  refine .code ?_
  refine .cond rfl (fun c1 => ?_) (fun c1 => ?_)
  · have c1k := c1
    rw [right_zero] at c1; cases c1
  · have c1k := c1
    try simp only [decide_eq_true_eq, decide_eq_false_iff_not, Int.not_lt, Int.not_le, gt_iff_lt, ge_iff_le, Bool.or_eq_true, Bool.and_eq_true, Bool.or_eq_false_iff, Bool.not_eq_true', Bool.not_eq_false', Int.toNat_natCast, bne_iff_ne, beq_iff_eq, bne_eq_false_iff_eq, beq_eq_false_iff_ne, ne_eq] at c1
    refine .skip ?_
    refine .code ?_
    refine .seq ?_
    refine .seq ?_
    refine Wk.rg [0, 1, 2, 3, 4, 5, 6, 7, 8, 9, 10, 11, 12, 13, 14] rfl rfl ?_
    refine fz rfl .no Fx.fo32_5 (.u rfl) ?_
    refine ld rfl .no Fx.ag22 (.u rfl) (fun _ => Rd.own (.there .here) rfl) ?_
    refine ln rfl .no Fx.sn22 (.u rfl) ?_
    refine cp rfl .no (.u rfl) (.u rfl) rfl ?_
    refine mv rfl .no (.u rfl) ?_
    refine fz rfl (.f rfl rfl) Fx.fo32_6 (.u rfl) ?_
    refine ld rfl (.f rfl rfl) Fx.ag30 (.s rfl) (fun hc => Rd.own (.there .here) rfl) ?_
    refine ln rfl (.f rfl rfl) Fx.sn30 (.s rfl) ?_
    refine cp rfl (.f rfl rfl) (.s rfl) (.u rfl) rfl ?_
    refine pkO rfl .no (.u rfl) (.s rfl) ?_
    refine mv rfl .no (.u rfl) ?_
    refine lA rfl (.f rfl rfl) Fx.ag27 (.u rfl) (fun _ => RdN.own (.there (.there .here))) (fun _ => (by first | exact State.len | exact State.len.trans State.len.symm | exact Edit.len | exact Edit.len.trans Edit.len.symm | exact nine2_len | exact nine2_len.trans State.len.symm | rfl)) ?_
    refine lA rfl (.f rfl rfl) Fx.ag32 (.u rfl) (fun _ => RdN.own (.there .here)) (fun _ => (by first | exact State.len | exact State.len.trans State.len.symm | exact Edit.len | exact Edit.len.trans Edit.len.symm | exact nine2_len | exact nine2_len.trans State.len.symm | rfl)) ?_
    refine kv rfl (.f rfl rfl) Fx.go48 (Eva.cons (.s rfl) (Eva.cons (.s rfl) Eva.nil)) (fun hc => before_ok State.zero hd0 _ edit1 ⟨none, 0⟩ h) ?_
    refine pkO rfl .no (.u rfl) (.s rfl) ?_
    refine .nil ?_
    refine .code ?_
    refine .cond rfl (fun c2 => ?_) (fun c2 => ?_)
    · have c2k := c2
      cases c2
    · have c2k := c2
      try simp only [decide_eq_true_eq, decide_eq_false_iff_not, Int.not_lt, Int.not_le, gt_iff_lt, ge_iff_le, Bool.or_eq_true, Bool.and_eq_true, Bool.or_eq_false_iff, Bool.not_eq_true', Bool.not_eq_false', Int.toNat_natCast, bne_iff_ne, beq_iff_eq, bne_eq_false_iff_eq, beq_eq_false_iff_ne, ne_eq] at c2
      refine .skip ?_
      refine .code ?_
      refine .seq ?_
      refine Wk.rg [0, 1, 2, 3, 4, 5, 6, 7, 8, 9, 10, 11, 12, 13, 14] rfl rfl ?_
      refine fz rfl .no Fx.fo32_0 (.u rfl) ?_
      refine ld rfl .no Fx.ag24 (.u rfl) (fun _ => Rd.own (.there .here) (by first | exact wap_f rfl | rfl)) ?_
      refine fz rfl .no Fx.fo32_1 (.u rfl) ?_
      refine ld rfl .no Fx.ag24 (.u rfl) (fun _ => Rd.own (.there .here) (by first | exact wap_f rfl | rfl)) ?_
      refine fz rfl .no Fx.fo32_2 (.u rfl) ?_
      refine ld rfl .no Fx.ag24 (.u rfl) (fun _ => Rd.own (.there .here) (by first | exact wap_f rfl | rfl)) ?_
      refine fz rfl .no Fx.fo32_3 (.u rfl) ?_
      refine ld rfl .no Fx.ag24 (.u rfl) (fun _ => Rd.own (.there .here) (by first | exact wap_f rfl | rfl)) ?_
      refine fz rfl .no Fx.fo32_4 (.u rfl) ?_
      refine lA rfl .no Fx.ag25 (.u rfl) (fun _ => RdN.part (n := 5) (cs' := (List.range 5).map (fun _ => .int .u64 0)) (.there .here) (rfl)) (fun _ => rfl) ?_
      refine fz rfl .no Fx.fo27_0 (.u rfl) ?_
      refine lA rfl .no Fx.ag23 (.u rfl) (fun _ => RdN.part (n := 5) (cs' := (List.range 5).map (fun _ => .slice none 0 0)) (.there (.there .here)) (rfl)) (fun _ => rfl) ?_
      refine bCe (State.zero.cells hd0) rfl .no Fx.bp27_1_2_3_4_5_0 (.cons (.u rfl) rfl (.cons (.u rfl) rfl (.cons (.u rfl) rfl (.cons (.u rfl) rfl (.cons (.u rfl) rfl (.cons (.u rfl) rfl .nil)))))) rfl (rfl) ?_
      refine al rfl Fx.zq27 ?_; intro b6
      refine sw rfl (.u rfl) (.u rfl) rfl Fx.sz27 .here (by first | exact State.len | exact State.len.trans State.len.symm | exact Edit.len | exact Edit.len.trans Edit.len.symm | exact nine2_len | exact nine2_len.trans State.len.symm | rfl) (State.one') ?_
      refine .nil ?_
      refine .code ?_
      refine .seq ?_
      refine .seq ?_
      refine Wk.rg [0] rfl rfl ?_
      refine mv rfl .no (.u rfl) ?_
      refine .nil ?_
      refine .code ?_
      refine .block ?_
      refine Wk.lop (α := Nat) (fun k => [(49, true, .int .i64 (k : Int))]) (fun k => [.blk b6 (cl (State.zero.cells hd0) 27)])
        (fun k Gl => (k ≤ 5)) (fun k => 5 - k) 0 [(3, true, _), (4, true, _), (6, true, _)] [_, _, _]
        (ESub.cons rfl (by first | rfl | exact evi (by omega)) (ESub.cons rfl rfl (ESub.cons rfl rfl (ESub.cons rfl rfl ESub.nil))))
        (MSub.cons .here rfl (MSub.cons .here rfl (MSub.cons .here rfl (MSub.cons .here rfl MSub.nil)))) ?_ ?_
      · (try dsimp only) <;> (first | omega | rfl | assumption | (simp; done))
      intro k N0 Gl0 hN0 hGl0 hF0
      try dsimp only at hF0 hN0 ⊢
      have hk := hF0
      have hs := hs.mono hGl0
      refine .seq ?_
      refine Wk.rg [0] rfl rfl ?_
      refine cp rfl .no (.u rfl) (.u rfl) rfl ?_
      refine .nil ?_
      refine .code ?_
      refine .seq ?_
      refine .cond rfl (fun c3 => ?_) (fun c3 => ?_)
      · have c3k := c3
        try simp only [decide_eq_true_eq, decide_eq_false_iff_not, Int.not_lt, Int.not_le, gt_iff_lt, ge_iff_le, Bool.or_eq_true, Bool.and_eq_true, Bool.or_eq_false_iff, Bool.not_eq_true', Bool.not_eq_false', Int.toNat_natCast, bne_iff_ne, beq_iff_eq, bne_eq_false_iff_eq, beq_eq_false_iff_ne, ne_eq] at c3
        refine .skip ?_
        refine .code ?_
        refine .seq ?_
        refine .block ?_
        refine .seq ?_
        refine Wk.rg [0, 1] rfl rfl ?_
        refine mv rfl .no (.u rfl) ?_
        refine asg rfl .no (.u rfl) ?_
        refine .nil ?_
        refine .code ?_
        refine Wk.rg [0, 1, 2, 3, 4, 5, 6, 7, 8] rfl rfl ?_
        refine mv rfl .no (.u rfl) ?_
        refine mv rfl .no (.u rfl) ?_
        refine fz rfl .no Fx.fo27_0 (.u rfl) ?_
        refine iA rfl .no Fx.ar23 (.u rfl) (.u rfl) (fun _ => by omega) (fun _ => by omega) ?_
        refine ld (v := .slice none 0 0) rfl .no Fx.ag22 (.u rfl) (fun _ => Rd.own .here (zero_at (by omega))) ?_
        refine kv rfl .no Fx.go49 (Eva.cons (.u rfl) Eva.nil) (fun _ => clone0_ok _) ?_
        refine fz rfl .no Fx.fo27_0 (.u rfl) ?_
        refine iA rfl .no Fx.ar23 (.u rfl) (.u rfl) (fun _ => by omega) (fun _ => by omega) ?_
        refine s1 rfl (.u rfl) (.u rfl) rfl Fx.sz22 .here (by show _ < 14; omega) (zero_set (by omega)) ?_
        refine .nil ?_
        refine .blk ?_
        refine .code ?_
        refine Wk.rg [0, 1] rfl rfl ?_
        refine arn (((k + 1) : Nat) : Int) rfl .no (.u rfl) (.u rfl) rfl (fun _ => by omega) (fun _ => wrap_i64 (by omega) (by omega)) ?_
        refine mv rfl .no (.u rfl) ?_
        refine .nil ?_
        refine We.lpo (k + 1) ?_ ?_ ?_ ?_ ?_
        · exact (ESub.cons rfl (by first | rfl | exact evi (by omega)) (ESub.cons rfl rfl (ESub.cons rfl rfl (ESub.cons rfl rfl ESub.nil))))
        · exact (MSub.cons .here rfl (MSub.cons .here rfl (MSub.cons .here rfl (MSub.cons .here rfl MSub.nil))))
        · first | omega | (dsimp only; omega)
        · exact hGl0
        · (try dsimp only) <;> (first | omega | rfl | assumption | (simp; done))
      · have c3k := c3
        try simp only [decide_eq_true_eq, decide_eq_false_iff_not, Int.not_lt, Int.not_le, gt_iff_lt, ge_iff_le, Bool.or_eq_true, Bool.and_eq_true, Bool.or_eq_false_iff, Bool.not_eq_true', Bool.not_eq_false', Int.toNat_natCast, bne_iff_ne, beq_iff_eq, bne_eq_false_iff_eq, beq_eq_false_iff_ne, ne_eq] at c3
        refine .exit ?_
        refine .xcode ?_
        refine .xlp ?_
        refine .xblk ?_
        refine .code ?_
        refine .seq ?_
        refine .seq ?_
        refine Wk.rg [0, 1, 2, 3] rfl rfl ?_
        refine fz rfl .no Fx.fo32_6 (.u rfl) ?_
        refine ld rfl .no Fx.ag30 (.u rfl) (fun _ => Rd.own (.there (.there .here)) (by first | exact wap_f rfl | rfl)) ?_
        refine ln rfl .no Fx.sn30 (.u rfl) ?_
        refine mv rfl .no (.u rfl) ?_
        refine .nil ?_
        refine .code ?_
        refine .block ?_
        refine Wk.lop (α := Nat) (fun j => [(64, true, .int .i64 (j : Int))]) (fun _ => [])
          (fun j Gl => (j = 0)) (fun j => 1 - j) 0 [(3, true, _), (4, true, _), (6, true, _), (62, true, _), (63, true, _)] [_, _, _, _]
          (ESub.cons rfl (by first | rfl | exact evi (by omega)) (ESub.cons rfl rfl (ESub.cons rfl rfl (ESub.cons rfl rfl (ESub.cons rfl rfl (ESub.cons rfl rfl ESub.nil))))))
          (MSub.cons .here rfl (MSub.cons .here rfl (MSub.cons .here rfl (MSub.cons .here rfl MSub.nil)))) ?_ ?_
        · (try dsimp only) <;> (first | omega | rfl | assumption | (simp; done))
        intro j N1 Gl1 hN1 hGl1 hF1
        try dsimp only at hF1 hN1 ⊢
        have hj := hF1
        have hs := hs.mono hGl1
        refine .seq ?_
        refine Wk.rg [0] rfl rfl ?_
        refine cp rfl .no (.u rfl) (.u rfl) rfl ?_
        refine .nil ?_
        refine .code ?_
        refine .seq ?_
        refine .cond rfl (fun c4 => ?_) (fun c4 => ?_)
        · have c4k := c4
          try simp only [decide_eq_true_eq, decide_eq_false_iff_not, Int.not_lt, Int.not_le, gt_iff_lt, ge_iff_le, Bool.or_eq_true, Bool.and_eq_true, Bool.or_eq_false_iff, Bool.not_eq_true', Bool.not_eq_false', Int.toNat_natCast, bne_iff_ne, beq_iff_eq, bne_eq_false_iff_eq, beq_eq_false_iff_ne, ne_eq] at c4
          refine .skip ?_
          refine .code ?_
          refine .seq ?_
          refine .block ?_
          refine .seq ?_
          refine Wk.rg [0, 1, 2, 3] rfl rfl ?_
          refine ih rfl .no Fx.se30 (.u rfl) (.u rfl) (fun _ => by omega) (fun _ => by omega) (fun _ => hs.nn (k := j) (by first | omega | (simp only [Bool.and_eq_true, decide_eq_true_eq] at hc; omega) | (simp only [List.length_cons, List.length_nil]; omega))) ?_
          refine lA rfl .no Fx.ag51 (.u rfl) (fun _ => (hs.at (k := 0) (x := Gone.zero) (by omega) rfl).rd) (fun _ => rfl) ?_
          refine al rfl Fx.zr51 ?_; intro b9
          refine sw rfl (.u rfl) (.u rfl) rfl Fx.sz51 .here rfl (gones1) ?_
          refine .nil ?_
          refine .code ?_
          refine .seq ?_
          refine .seq ?_
          refine Wk.rg [0, 1, 2] rfl rfl ?_
          refine fz rfl .no Fx.fo51_0 (.u rfl) ?_
          refine ld rfl .no Fx.ag5 (.u rfl) (fun _ => Rd.own .here (by first | exact wap_f rfl | rfl)) ?_
          refine cp rfl .no (.u rfl) (.u rfl) rfl ?_
          refine .nil ?_
          refine .code ?_
          refine .cond rfl (fun c5 => ?_) (fun c5 => ?_)
          · have c5k := c5
            cases c5
          · have c5k := c5
            try simp only [decide_eq_true_eq, decide_eq_false_iff_not, Int.not_lt, Int.not_le, gt_iff_lt, ge_iff_le, Bool.or_eq_true, Bool.and_eq_true, Bool.or_eq_false_iff, Bool.not_eq_true', Bool.not_eq_false', Int.toNat_natCast, bne_iff_ne, beq_iff_eq, bne_eq_false_iff_eq, beq_eq_false_iff_ne, ne_eq] at c5
            refine .skip ?_
            refine .code ?_
            refine .seq ?_
            refine Wk.rg [0, 1, 2, 3, 4] rfl rfl ?_
            refine fz rfl .no Fx.fo51_0 (.u rfl) ?_
            refine ld rfl .no Fx.ag5 (.u rfl) (fun _ => Rd.own .here (by first | exact wap_f rfl | rfl)) ?_
            refine fz rfl .no Fx.fo27_0 (.u rfl) ?_
            refine iA rfl .no Fx.ar23 (.u rfl) (.u rfl) (fun _ => by omega) (fun _ => by omega) ?_
            refine asg rfl .no (.u rfl) ?_
            refine .nil ?_
            refine .code ?_
            refine .seq ?_
            refine Wk.rg [0, 1, 2, 3, 4, 5] rfl rfl ?_
            refine mv rfl .no (.u rfl) ?_
            refine nc rfl .no (.u rfl) ?_
            refine ld (v := .slice none 0 0) rfl .no Fx.ag22 (.u rfl) (fun _ => Rd.own (.there .here) (zero_at (k := 0) (by omega))) ?_
            refine mf (vf := #[]) (vc := [Value.pointer (some ⟨b9, 0, none⟩)].toArray) rfl .no (fun a ha _ => by simp) (fun a ha _ => by simp [(Ev.u (c := true) rfl : Ev _ true (.tmp 9) _).eval ha rfl]) ?_
            refine kv rfl .no Fx.go50 (Eva.cons (.u rfl) (Eva.cons (.u rfl) Eva.nil)) (fun _ => idx_ok ⟨none, 0⟩ [] _ SlR.nul (by decide) 51 Fx.go51 [.pointer (some ⟨b9, 0, none⟩)] (fun _ => false) (fun _ _ m hm => by cases hm)) ?_
            refine asg rfl .no (.u rfl) ?_
            refine .nil ?_
            refine .code ?_
            refine .seq ?_
            refine .seq ?_
            refine Wk.rg [0, 1] rfl rfl ?_
            refine mv rfl .no (.u rfl) ?_
            refine cp rfl .no (.u rfl) (.u rfl) rfl ?_
            refine .nil ?_
            refine .code ?_
            refine .cond rfl (fun c6 => ?_) (fun c6 => ?_)
            · have c6k := c6
              try simp only [decide_eq_true_eq, decide_eq_false_iff_not, Int.not_lt, Int.not_le, gt_iff_lt, ge_iff_le, Bool.or_eq_true, Bool.and_eq_true, Bool.or_eq_false_iff, Bool.not_eq_true', Bool.not_eq_false', Int.toNat_natCast, bne_iff_ne, beq_iff_eq, bne_eq_false_iff_eq, beq_eq_false_iff_ne, ne_eq] at c6
              refine .seq ?_
              refine Wk.rg [0, 1, 2] rfl rfl ?_
              refine bC rfl .no Fx.bp27_ .nil rfl ?_
              refine sw rfl (.u rfl) (.u rfl) rfl Fx.sz27 (.there (.there .here)) (by first | exact State.len | exact State.len.trans State.len.symm | exact Edit.len | exact Edit.len.trans Edit.len.symm | exact nine2_len | exact nine2_len.trans State.len.symm | rfl) (State.one') ?_
              refine asg rfl .no (.u rfl) ?_
              refine .nil ?_
              refine .code ?_
              refine .ret ?_
              refine We.fin0 Try.results20 (.cell rfl (fun w hw => run_loadVarN Fx.ag27 (RdN.own .here) ((by first | exact State.len | exact State.len.trans State.len.symm | exact Edit.len | exact Edit.len.trans Edit.len.symm | exact nine2_len | exact nine2_len.trans State.len.symm | rfl)) hw) (.tmp rfl .nil)) ?_
              exact ⟨rfl, rfl⟩
            · have c6k := c6
              cases c6
        · have c4k := c4
          simp at c4; omega

end Go.Proofs.Ytnhdaaggkdegpaa

namespace Go.Proofs.Ytnhdaaggkdegpaa
set_option linter.unusedSimpArgs false
set_option linter.unusedVariables false
open Go.Tan Go.RowKit

namespace Fx
theorem go17 : goFn Try.prog 17 = true := by kernel_rfl
theorem go15 : goFn Try.prog 15 = true := by kernel_rfl
theorem bp51_ : bPl Try.prog 51 [] = some ([.int .u8 0, .int .u64 0], []) := by kernel_rfl
theorem bp32_6 : bPl Try.prog 32 [6] = some (nine (fun _ => 0) ++ [.slice none 0 0, .slice none 0 0], [(10, 1)]) := by kernel_rfl
theorem go20 : goFn Try.prog 20 = true := by kernel_rfl
end Fx
set_option maxHeartbeats 1000000 in
theorem shown18_ok (G : PM) : Ct Try.prog 10 ([] : List Value).toArray G [] (fun _ μ' u => μ' = [] ∧ u = .bool true) := by
  refine Ct.of Try.func10 rfl Try.ntmps10 rfl fun w0 hs0 => ?_
  refine .seq ?_
  refine Wk.rg [0] rfl rfl ?_
  refine asg rfl .no (.u rfl) ?_
  refine .nil ?_
  refine .code ?_
  refine .seq ?_
  refine Wk.rg [0, 1, 2] rfl rfl ?_
  refine bCe (Edit.zero.cells ⟨none, 0⟩ ⟨none, 0⟩) rfl .no Fx.bp32_ .nil rfl (rfl) ?_
  refine kc rfl Fx.go17 (Eva.cons (.u rfl) Eva.nil) (encode_ok Edit.zero ⟨none, 0⟩ ⟨none, 0⟩ _ EdR.zero (by decide) (by decide) (by decide)) ?_
  rintro _ G7 μ7 hG7 ⟨h7, L7, eL7, rfl, rfl, hs7⟩
  refine asg rfl .no (.u rfl) ?_
  refine .nil ?_
  refine .code ?_
  refine .seq ?_
  refine Wk.rg [0, 1, 2, 3, 4, 5, 6, 7] rfl rfl ?_
  refine mkYf (10) (10) rfl .no Fx.se33 Fx.zv5 (.u rfl) (.u rfl) (by first | rfl | omega) (by first | rfl | omega) (by omega) (by omega) ?_; intro G9 h9 L9 eL9 lL9 hG9 hs9
  have hs7 := hs7.mono hG9
  refine kc rfl Fx.go15 (Eva.cons (.u rfl) Eva.nil) (decode_ok L9 h9 _ hs9 (by omega)) ?_
  rintro _ G10 μ10 hG10 ⟨e10, err10, ha10, hd10, hD10, rfl, rfl, hE10⟩
  have hs7 := hs7.mono hG10
  have hs9 := hs9.mono hG10
  refine mv rfl .no (.u rfl) ?_
  refine ex rfl .no (.u rfl) rfl ?_
  refine ex rfl .no (.u rfl) rfl ?_
  refine al rfl Fx.zq32 ?_; intro b2
  refine sw rfl (.u rfl) (.u rfl) rfl Fx.sz32 .here (by first | exact State.len | exact State.len.trans State.len.symm | exact Edit.len | exact Edit.len.trans Edit.len.symm | exact nine2_len | exact nine2_len.trans State.len.symm | rfl) (Edit.one') ?_
  refine asg rfl .no (.u rfl) ?_
  refine .nil ?_
  rw [eL9] at hD10; obtain rfl := decR_ten hD10
  refine .code ?_
  refine .seq ?_
  refine Wk.rg [0, 1, 2, 3, 4, 5, 6, 7, 8, 9, 10] rfl rfl ?_
  refine bCe (State.zero.cells hd0) rfl .no Fx.bp27_ .nil rfl (rfl) ?_
  refine bCe (Gone.zero.cells) rfl .no Fx.bp51_ .nil rfl (rfl) ?_
  refine b1f (cs := Gone.zero.cells) rfl Fx.se30 Fx.zv51 (.u rfl) rfl rfl (by decide) ?_; intro b16 G16 hG16 hb16; have hs16 := hb16.sl1 (sz := 2) (enc := Gone.cells) (x := Gone.zero) (cap := 1) (by decide)
  have hs7 := hs7.mono hG16
  have hs9 := hs9.mono hG16
  have hE10 := hE10.mono hG16
  refine bCe (edit1.cells ⟨none, 0⟩ ⟨some ⟨b16, 0, none⟩, 1⟩) rfl .no Fx.bp32_6 (.cons (.u rfl) rfl .nil) rfl (rfl) ?_
  refine kc rfl Fx.go20 (Eva.cons (.u rfl) (Eva.cons (.u rfl) Eva.nil)) (apply0_ok ⟨some ⟨b16, 0, none⟩, 1⟩ _ hs16) ?_
  rintro _ G18 μ18 hG18 ⟨rfl, rfl⟩
  have hs7 := hs7.mono hG18
  have hs9 := hs9.mono hG18
  have hE10 := hE10.mono hG18
  refine mv rfl .no (.u rfl) ?_
  refine ex rfl .no (.u rfl) rfl ?_
  refine ex rfl .no (.u rfl) rfl ?_
  refine al rfl Fx.zq27 ?_; intro b4
  refine sw rfl (.u rfl) (.u rfl) rfl Fx.sz27 .here (by first | exact State.len | exact State.len.trans State.len.symm | exact Edit.len | exact Edit.len.trans Edit.len.symm | exact nine2_len | exact nine2_len.trans State.len.symm | rfl) (State.one') ?_
  refine asg rfl .no (.u rfl) ?_
  refine .nil ?_
  refine .code ?_
  refine .seq ?_
  refine Wk.mix ⟨false, false⟩ Fx.mix (by kernel_rfl) ?_
  refine Wt.one 0 (by kernel_rfl) ?_
  refine mv rfl .no (.u rfl) ?_
  refine .nil ?_
  refine Wt.one 1 (by kernel_rfl) ?_
  refine ln rfl .no Fx.sn33 (.u rfl) ?_
  refine .nil ?_
  refine Wt.one 2 (by kernel_rfl) ?_
  refine cp rfl .no (.u rfl) (.u rfl) rfl ?_
  refine wo_b true (by rw [eL7, enc_zero]; rfl) ?_
  refine .nil ?_
  refine Wt.one 3 (by kernel_rfl) ?_
  refine mv rfl .no (.u rfl) ?_
  refine .nil ?_
  refine Wt.one 4 (by kernel_rfl) ?_
  refine mv rfl (.t rfl rfl) (.u rfl) ?_
  refine .nil ?_
  refine Wt.b2 5 6 (by kernel_rfl) ?_ ?_
  · refine sB rfl (.t rfl rfl) Fx.bs33_9 (.u rfl) (fun _ => hs7.sc) ?_
    refine .nil ?_
    refine Wt.b1 6 (by kernel_rfl) ?_
    refine mkYf (11) (11) rfl (.t rfl rfl) Fx.se33 Fx.zv5 (.u rfl) (.u rfl) (by first | rfl | omega) (by first | rfl | omega) (by omega) (by omega) ?_; intro G27 h27 L27 eL27 lL27 hG27 hs27
    have hs7 := hs7.mono hG27
    have hs9 := hs9.mono hG27
    have hE10 := hE10.mono hG27
    refine .nil ?_
    refine Wt.one 7 (by kernel_rfl) ?_
    refine sB rfl (.t rfl rfl) Fx.bs33_9 (.u rfl) (fun _ => hs27.sc) ?_
    refine .nil ?_
    refine Wt.one 8 (by kernel_rfl) ?_
    refine cb rfl (.t rfl rfl) (.u rfl) (.u rfl) ?_
    refine wo_b true (by rw [eL7, enc_zero, eL27]; simp) ?_
    refine .nil ?_
    refine Wt.one 9 (by kernel_rfl) ?_
    refine pkA rfl .no (.u rfl) (.u rfl) ?_
    refine .nil ?_
    refine Wt.one 10 (by kernel_rfl) ?_
    refine mv rfl .no (.u rfl) ?_
    refine .nil ?_
    refine Wt.one 11 (by kernel_rfl) ?_
    refine mv rfl (.t rfl rfl) (.u rfl) ?_
    refine .nil ?_
    refine Wt.one 12 (by kernel_rfl) ?_
    refine cp rfl (.t rfl rfl) (.u rfl) (.u rfl) rfl ?_
    refine wo_b true (rfl) ?_
    refine .nil ?_
    refine Wt.one 13 (by kernel_rfl) ?_
    refine pkA rfl .no (.u rfl) (.u rfl) ?_
    refine .nil ?_
    refine Wt.one 14 (by kernel_rfl) ?_
    refine mv rfl .no (.u rfl) ?_
    refine .nil ?_
    refine Wt.one 15 (by kernel_rfl) ?_
    refine mv rfl (.t rfl rfl) (.u rfl) ?_
    refine .nil ?_
    refine Wt.one 16 (by kernel_rfl) ?_
    refine cp rfl (.t rfl rfl) (.u rfl) (.u rfl) rfl ?_
    refine wo_b true (rfl) ?_
    refine .nil ?_
    refine Wt.one 17 (by kernel_rfl) ?_
    refine pkA rfl .no (.u rfl) (.u rfl) ?_
    refine .nil ?_
    refine Wt.one 18 (by kernel_rfl) ?_
    refine mv rfl .no (.u rfl) ?_
    refine .nil ?_
    refine Wt.one 19 (by kernel_rfl) ?_
    refine bCe (State.zero.cells hd0) rfl (.t rfl rfl) Fx.bp27_ .nil rfl (rfl) ?_
    refine .nil ?_
    refine Wt.b1 20 (by kernel_rfl) ?_
    refine kv rfl (.t rfl rfl) Fx.go12 (Eva.cons (.u rfl) Eva.nil) (fun _ => vRight_ok State.zero hd0 _ st_zero) ?_
    refine .nil ?_
    refine Wt.one 21 (by kernel_rfl) ?_
    refine pkA rfl .no (.u rfl) (.u rfl) ?_
    refine .nil ?_
    refine Wt.one 22 (by kernel_rfl) ?_
    refine asg rfl .no (.u rfl) ?_
    refine .nil ?_
    refine Wt.last (by kernel_rfl) ?_
    refine .code ?_
    refine .ret ?_
    refine We.fin0 Try.results10 (.tmp rfl .nil) ?_
    exact ⟨rfl, congrArg Value.bool (by rw [right_zero]; rfl)⟩
  · refine mkYf (11) (11) rfl (.t rfl rfl) Fx.se33 Fx.zv5 (.u rfl) (.u rfl) (by first | rfl | omega) (by first | rfl | omega) (by omega) (by omega) ?_; intro G27 h27 L27 eL27 lL27 hG27 hs27
    have hs7 := hs7.mono hG27
    have hs9 := hs9.mono hG27
    have hE10 := hE10.mono hG27
    refine .nil ?_
    refine Wt.one 5 (by kernel_rfl) ?_
    refine sB rfl (.t rfl rfl) Fx.bs33_9 (.u rfl) (fun _ => hs7.sc) ?_
    refine .nil ?_
    refine Wt.one 7 (by kernel_rfl) ?_
    refine sB rfl (.t rfl rfl) Fx.bs33_9 (.u rfl) (fun _ => hs27.sc) ?_
    refine .nil ?_
    refine Wt.one 8 (by kernel_rfl) ?_
    refine cb rfl (.t rfl rfl) (.u rfl) (.u rfl) ?_
    refine wo_b true (by rw [eL7, enc_zero, eL27]; simp) ?_
    refine .nil ?_
    refine Wt.one 9 (by kernel_rfl) ?_
    refine pkA rfl .no (.u rfl) (.u rfl) ?_
    refine .nil ?_
    refine Wt.one 10 (by kernel_rfl) ?_
    refine mv rfl .no (.u rfl) ?_
    refine .nil ?_
    refine Wt.one 11 (by kernel_rfl) ?_
    refine mv rfl (.t rfl rfl) (.u rfl) ?_
    refine .nil ?_
    refine Wt.one 12 (by kernel_rfl) ?_
    refine cp rfl (.t rfl rfl) (.u rfl) (.u rfl) rfl ?_
    refine wo_b true (rfl) ?_
    refine .nil ?_
    refine Wt.one 13 (by kernel_rfl) ?_
    refine pkA rfl .no (.u rfl) (.u rfl) ?_
    refine .nil ?_
    refine Wt.one 14 (by kernel_rfl) ?_
    refine mv rfl .no (.u rfl) ?_
    refine .nil ?_
    refine Wt.one 15 (by kernel_rfl) ?_
    refine mv rfl (.t rfl rfl) (.u rfl) ?_
    refine .nil ?_
    refine Wt.one 16 (by kernel_rfl) ?_
    refine cp rfl (.t rfl rfl) (.u rfl) (.u rfl) rfl ?_
    refine wo_b true (rfl) ?_
    refine .nil ?_
    refine Wt.one 17 (by kernel_rfl) ?_
    refine pkA rfl .no (.u rfl) (.u rfl) ?_
    refine .nil ?_
    refine Wt.one 18 (by kernel_rfl) ?_
    refine mv rfl .no (.u rfl) ?_
    refine .nil ?_
    refine Wt.one 19 (by kernel_rfl) ?_
    refine bCe (State.zero.cells hd0) rfl (.t rfl rfl) Fx.bp27_ .nil rfl (rfl) ?_
    refine .nil ?_
    refine Wt.b1 20 (by kernel_rfl) ?_
    refine kv rfl (.t rfl rfl) Fx.go12 (Eva.cons (.u rfl) Eva.nil) (fun _ => vRight_ok State.zero hd0 _ st_zero) ?_
    refine .nil ?_
    refine Wt.one 21 (by kernel_rfl) ?_
    refine pkA rfl .no (.u rfl) (.u rfl) ?_
    refine .nil ?_
    refine Wt.one 22 (by kernel_rfl) ?_
    refine asg rfl .no (.u rfl) ?_
    refine .nil ?_
    refine Wt.last (by kernel_rfl) ?_
    refine .code ?_
    refine .ret ?_
    refine We.fin0 Try.results10 (.tmp rfl .nil) ?_
    exact ⟨rfl, congrArg Value.bool (by rw [right_zero]; rfl)⟩

end Go.Proofs.Ytnhdaaggkdegpaa

namespace Go.Proofs.Ytnhdaaggkdegpaa
set_option linter.unusedSimpArgs false
set_option linter.unusedVariables false
open Go.Tan Go.RowKit

namespace Fx
theorem go10 : goFn Try.prog 10 = true := by kernel_rfl
theorem go11 : goFn Try.prog 11 = true := by kernel_rfl
theorem bt4 : boolT Try.prog 4 = true := by kernel_rfl
theorem go24 : goFn Try.prog 24 = true := by kernel_rfl
end Fx
end Go.Proofs.Ytnhdaaggkdegpaa

namespace Go.Proofs.Ytnhdaaggkdegpaa
set_option linter.unusedSimpArgs false
set_option linter.unusedVariables false
open Go.Tan Go.RowKit
set_option maxRecDepth 100000
namespace FxVerOa
theorem co48 : Try.prog.cellsOf 48 = 40 := by kernel_rfl
theorem co5 : Try.prog.cellsOf 5 = 1 := by kernel_rfl
theorem co24 : Try.prog.cellsOf 24 = 1 := by kernel_rfl
theorem co3 : Try.prog.cellsOf 3 = 1 := by kernel_rfl
theorem co9 : Try.prog.cellsOf 9 = 1 := by kernel_rfl
theorem co46 : Try.prog.cellsOf 46 = 32 := by kernel_rfl
theorem co51 : Try.prog.cellsOf 51 = 2 := by kernel_rfl
theorem co27 : Try.prog.cellsOf 27 = 14 := by kernel_rfl
theorem co25 : Try.prog.cellsOf 25 = 5 := by kernel_rfl
theorem co23 : Try.prog.cellsOf 23 = 5 := by kernel_rfl
theorem co22 : Try.prog.cellsOf 22 = 1 := by kernel_rfl
theorem co32 : Try.prog.cellsOf 32 = 11 := by kernel_rfl
theorem co30 : Try.prog.cellsOf 30 = 1 := by kernel_rfl
end FxVerOa
namespace Fx
theorem by48 : Try.prog.bytesOf 48 = 112 := by kernel_rfl
theorem by51 : Try.prog.bytesOf 51 = 16 := by kernel_rfl
end Fx
section
variable {H : Type} {R : Nat} {enc : TypeId × Value → H} {W : World} {cs : List Value}
def mQ (R : Nat) (m : Meta) : Prop := m.wf ∧ m.min.size ≤ R ∧ m.max.size ≤ R
theorem meta_of (hR : R ≤ 140737488351232) (h : Rg R enc Try.prog W 48 cs) : ∃ m : Meta, cs = m.cells ∧ mQ R m := by
  have hl := h.len Try.underlying48
  rw [FxVerOa.co48] at hl
  obtain ⟨n0, h0, w0⟩ := h.intAt Try.underlying48 0 5 0 rfl Try.underlying5 FxVerOa.co5
  obtain ⟨n1, h1, w1⟩ := h.intAt Try.underlying48 1 24 1 rfl Try.underlying24 FxVerOa.co24
  obtain ⟨n2, h2, w2⟩ := h.intAt Try.underlying48 2 24 2 rfl Try.underlying24 FxVerOa.co24
  obtain ⟨n3, h3, w3⟩ := h.intAt Try.underlying48 3 24 3 rfl Try.underlying24 FxVerOa.co24
  obtain ⟨n4, h4, w4⟩ := h.intAt Try.underlying48 4 3 4 rfl Try.underlying3 FxVerOa.co3
  obtain ⟨n5, h5, w5⟩ := h.intAt Try.underlying48 5 3 5 rfl Try.underlying3 FxVerOa.co3
  obtain ⟨s6, h6, w6⟩ := h.strAt Try.underlying48 6 9 6 rfl Try.underlying9 FxVerOa.co9
  obtain ⟨s7, h7, w7⟩ := h.strAt Try.underlying48 7 9 7 rfl Try.underlying9 FxVerOa.co9
  obtain ⟨r, hr⟩ := (h.fld Try.underlying48 8 46 8 rfl FxVerOa.co46).ints Try.underlying46 Try.underlying5 FxVerOa.co5
  rw [show IntKind.u8.min = 0 by decide, show IntKind.u8.max = 255 by decide] at w0
  rw [show IntKind.u64.min = 0 by decide, show IntKind.u64.max = 18446744073709551615 by decide] at w1
  rw [show IntKind.u64.min = 0 by decide, show IntKind.u64.max = 18446744073709551615 by decide] at w2
  rw [show IntKind.u64.min = 0 by decide, show IntKind.u64.max = 18446744073709551615 by decide] at w3
  rw [show IntKind.i64.min = -9223372036854775808 by decide, show IntKind.i64.max = 9223372036854775807 by decide] at w4
  rw [show IntKind.i64.min = -9223372036854775808 by decide, show IntKind.i64.max = 9223372036854775807 by decide] at w5
  refine ⟨⟨n0, n1, n2, n3, n4, n5, s6, s7, r⟩, list_eq hl fun i hi => ?_, ⟨⟨w0.1, by show n0 < _; omega⟩, ⟨w3.1, by show n3 < _; omega⟩, w4, Nat.le_trans w6 (by omega), Nat.le_trans w7 (by omega), w1, w2, w5, fun j hj => ?_⟩, w6, w7⟩
  · match i, hi with
    | 0, _ => exact h0
    | 1, _ => exact h1
    | 2, _ => exact h2
    | 3, _ => exact h3
    | 4, _ => exact h4
    | 5, _ => exact h5
    | 6, _ => exact h6
    | 7, _ => exact h7
    | n + 8, hi =>
      have hn : n < 32 := by have : n + 8 < 40 := hi; omega
      rw [show n + 8 = 8 + n by omega, take_at (hr n hn).1]
      rw [Meta.cells, List.getElem?_append_right (by simp)]
      simp [hn]
  · have w8 := (hr j hj).2; rw [show IntKind.u8.min = 0 by decide, show IntKind.u8.max = 255 by decide] at w8; exact w8
theorem gone_of (h : Rg R enc Try.prog W 51 cs) : ∃ g : Gone, cs = g.cells ∧ g.wf := by
  have hl := h.len Try.underlying51
  rw [FxVerOa.co51] at hl
  obtain ⟨n0, h0, w0⟩ := h.intAt Try.underlying51 0 5 0 rfl Try.underlying5 FxVerOa.co5
  obtain ⟨n1, h1, w1⟩ := h.intAt Try.underlying51 1 24 1 rfl Try.underlying24 FxVerOa.co24
  rw [show IntKind.u8.min = 0 by decide, show IntKind.u8.max = 255 by decide] at w0
  rw [show IntKind.u64.min = 0 by decide, show IntKind.u64.max = 18446744073709551615 by decide] at w1
  refine ⟨⟨n0, n1⟩, list_eq hl fun i hi => ?_, ⟨w0.1, by show n0 < _; omega⟩, ⟨w1.1, by show n1 < _; omega⟩⟩
  match i, hi with
  | 0, _ => exact h0
  | 1, _ => exact h1
  | n + 2, hi => exact absurd hi (by show ¬ n + 2 < 2; omega)
theorem state_of (hR : R ≤ 140737488351232) (h : Rg R enc Try.prog W 27 cs) : ∃ (s : State) (hd : Nat → Sh), cs = s.cells hd ∧ StR (fun b => W.heap[b]?) s hd ∧ (u64 s.log ∧ u64 s.next ∧ u64 s.seq ∧ u64 s.least ∧ ∀ i, i < 5 → u64 (s.gens i)) ∧ ∀ i, i < 5 → ∀ m ∈ s.lv i, mQ R m := by
  have hl := h.len Try.underlying27
  rw [FxVerOa.co27] at hl
  obtain ⟨n1, h1, w1⟩ := h.intAt Try.underlying27 1 24 5 rfl Try.underlying24 FxVerOa.co24
  obtain ⟨n2, h2, w2⟩ := h.intAt Try.underlying27 2 24 6 rfl Try.underlying24 FxVerOa.co24
  obtain ⟨n3, h3, w3⟩ := h.intAt Try.underlying27 3 24 7 rfl Try.underlying24 FxVerOa.co24
  obtain ⟨n4, h4, w4⟩ := h.intAt Try.underlying27 4 24 8 rfl Try.underlying24 FxVerOa.co24
  obtain ⟨r, hr⟩ := (h.fld Try.underlying27 5 25 9 rfl FxVerOa.co25).ints Try.underlying25 Try.underlying24 FxVerOa.co24
  rw [show IntKind.u64.min = 0 by decide, show IntKind.u64.max = 18446744073709551615 by decide] at w1
  rw [show IntKind.u64.min = 0 by decide, show IntKind.u64.max = 18446744073709551615 by decide] at w2
  rw [show IntKind.u64.min = 0 by decide, show IntKind.u64.max = 18446744073709551615 by decide] at w3
  rw [show IntKind.u64.min = 0 by decide, show IntKind.u64.max = 18446744073709551615 by decide] at w4
  have hlv : ∀ i, ∃ (y : Sh × List Meta), i < 5 → cs[i]? = some (y.1.val y.2.length) ∧ SlR (fun b => W.heap[b]?) 40 Meta.cells y.1 y.2 ∧ y.2.length * 112 ≤ R ∧ ∀ m ∈ y.2, mQ R m := by
    intro i
    by_cases hi : i < 5
    · obtain ⟨hd, l, e, hs, hc, hq⟩ := ((h.fld Try.underlying27 0 23 0 rfl FxVerOa.co23).elm Try.underlying23 hi FxVerOa.co22).sl Meta.cells (mQ R) Try.underlying22 FxVerOa.co48 (by decide) Fx.by48 (fun cs' h' => meta_of hR h')
      have := take_at (take1 e)
      refine ⟨(hd, l), fun _ => ⟨by simpa using this, hs, Nat.le_trans (Nat.mul_le_mul_right _ hs.le) hc, hq⟩⟩
    · exact ⟨(⟨none, 0⟩, []), fun h => absurd h hi⟩
  obtain ⟨M, hM⟩ : ∃ M : Nat → Sh × List Meta, ∀ i, i < 5 → cs[i]? = some ((M i).1.val (M i).2.length) ∧ SlR (fun b => W.heap[b]?) 40 Meta.cells (M i).1 (M i).2 ∧ (M i).2.length * 112 ≤ R ∧ ∀ m ∈ (M i).2, mQ R m := ⟨fun i => Classical.choose (hlv i), fun i => Classical.choose_spec (hlv i)⟩
  refine ⟨⟨fun i => (M i).2, n1, n2, n3, n4, r⟩, fun i => (M i).1, list_eq hl fun i hi => ?_, ⟨fun i hi => (hM i hi).2.1, fun i hi => Nat.le_trans (hM i hi).2.2.1 hR, fun i hi m hm => ((hM i hi).2.2.2 m hm).1⟩, ⟨⟨w1.1, by show n1 < _; omega⟩, ⟨w2.1, by show n2 < _; omega⟩, ⟨w3.1, by show n3 < _; omega⟩, ⟨w4.1, by show n4 < _; omega⟩, fun j hj => by
    have w8 := (hr j hj).2; rw [show IntKind.u64.min = 0 by decide, show IntKind.u64.max = 18446744073709551615 by decide] at w8; exact ⟨w8.1, by show r j < _; omega⟩⟩, fun i hi => (hM i hi).2.2.2⟩
  match i, hi with
  | 0, _ => exact (hM 0 (by decide)).1
  | 1, _ => exact (hM 1 (by decide)).1
  | 2, _ => exact (hM 2 (by decide)).1
  | 3, _ => exact (hM 3 (by decide)).1
  | 4, _ => exact (hM 4 (by decide)).1
  | 5, _ => exact h1
  | 6, _ => exact h2
  | 7, _ => exact h3
  | 8, _ => exact h4
  | 9, _ => exact take_at (hr 0 (by decide)).1
  | 10, _ => exact take_at (hr 1 (by decide)).1
  | 11, _ => exact take_at (hr 2 (by decide)).1
  | 12, _ => exact take_at (hr 3 (by decide)).1
  | 13, _ => exact take_at (hr 4 (by decide)).1
  | n + 14, hi => exact absurd hi (by show ¬ n + 14 < 14; omega)
theorem edit_of (hR : R ≤ 140737488351232) (h : Rg R enc Try.prog W 32 cs) : ∃ (e : Edit) (ha hd : Sh), cs = e.cells ha hd ∧ EdR (fun b => W.heap[b]?) e ha hd ∧ e.add.length * 112 ≤ R ∧ e.drop.length * 16 ≤ R ∧ ∀ m ∈ e.add, mQ R m := by
  have hl := h.len Try.underlying32
  rw [FxVerOa.co32] at hl
  obtain ⟨n0, h0, w0⟩ := h.intAt Try.underlying32 0 24 0 rfl Try.underlying24 FxVerOa.co24
  obtain ⟨n1, h1, w1⟩ := h.intAt Try.underlying32 1 24 1 rfl Try.underlying24 FxVerOa.co24
  obtain ⟨n2, h2, w2⟩ := h.intAt Try.underlying32 2 24 2 rfl Try.underlying24 FxVerOa.co24
  obtain ⟨n3, h3, w3⟩ := h.intAt Try.underlying32 3 24 3 rfl Try.underlying24 FxVerOa.co24
  obtain ⟨r, hr⟩ := (h.fld Try.underlying32 4 25 4 rfl FxVerOa.co25).ints Try.underlying25 Try.underlying24 FxVerOa.co24
  rw [show IntKind.u64.min = 0 by decide, show IntKind.u64.max = 18446744073709551615 by decide] at w0
  rw [show IntKind.u64.min = 0 by decide, show IntKind.u64.max = 18446744073709551615 by decide] at w1
  rw [show IntKind.u64.min = 0 by decide, show IntKind.u64.max = 18446744073709551615 by decide] at w2
  rw [show IntKind.u64.min = 0 by decide, show IntKind.u64.max = 18446744073709551615 by decide] at w3
  obtain ⟨ha, la, ea, hsa, hca, hqa⟩ := (h.fld Try.underlying32 5 22 9 rfl FxVerOa.co22).sl Meta.cells (mQ R) Try.underlying22 FxVerOa.co48 (by decide) Fx.by48 (fun cs' h' => meta_of hR h')
  obtain ⟨hd, ld, ed, hsd, hcd, hqd⟩ := (h.fld Try.underlying32 6 30 10 rfl FxVerOa.co30).sl Gone.cells Gone.wf Try.underlying30 FxVerOa.co51 (by decide) Fx.by51 (fun cs' h' => gone_of h')
  refine ⟨⟨n0, n1, n2, n3, r, la, ld⟩, ha, hd, list_eq hl fun i hi => ?_, ⟨hsa, hsd, ⟨w0.1, by show n0 < _; omega⟩, ⟨w1.1, by show n1 < _; omega⟩, ⟨w2.1, by show n2 < _; omega⟩, ⟨w3.1, by show n3 < _; omega⟩, fun j hj => ?_, fun m hm => (hqa m hm).1, hqd⟩, Nat.le_trans (Nat.mul_le_mul_right _ hsa.le) hca, Nat.le_trans (Nat.mul_le_mul_right _ hsd.le) hcd, hqa⟩
  rotate_left
  · have w8 := (hr j hj).2; rw [show IntKind.u64.min = 0 by decide, show IntKind.u64.max = 18446744073709551615 by decide] at w8; exact ⟨w8.1, by show r j < _; omega⟩
  match i, hi with
  | 0, _ => exact h0
  | 1, _ => exact h1
  | 2, _ => exact h2
  | 3, _ => exact h3
  | 4, _ => exact take_at (hr 0 (by decide)).1
  | 5, _ => exact take_at (hr 1 (by decide)).1
  | 6, _ => exact take_at (hr 2 (by decide)).1
  | 7, _ => exact take_at (hr 3 (by decide)).1
  | 8, _ => exact take_at (hr 4 (by decide)).1
  | 9, _ => exact take1 ea
  | 10, _ => exact take1 ed
  | n + 11, hi => exact absurd hi (by show ¬ n + 11 < 11; omega)
theorem agg_of {t : TypeId} {fs : Array Field} {base : Nat} {v : Value} (ht : Try.prog.underlying t = some (.struct fs)) (h : Value.okWide Try.prog W .any base t v) {l : List Value} (hl : v.cells.toList = l) : v = .agg l.toArray := by
  unfold Value.okWide at h
  rw [ht] at h
  obtain ⟨c, rfl, _⟩ := h
  rw [← hl]; rfl
end
theorem tanOwn : ownKnob Try.prog.godebug = none := by kernel_rfl
theorem tanLaid : laidOutB Try.prog = true := by kernel_rfl
end Go.Proofs.Ytnhdaaggkdegpaa

namespace Go.Tan
section
variable {α : Type} {lt : α → α → Bool}
/-- a comparison: what is not below is transitive, nothing is below itself -/
structure Wk0 (lt : α → α → Bool) : Prop where
  irr : ∀ a, lt a a = false
  tr : ∀ {a b c}, lt a b = true → lt b c = true → lt a c = true
  co : ∀ {a b} c, lt a b = true → lt a c = true ∨ lt c b = true
theorem Wk0.as (h : Wk0 lt) {a b : α} (hab : lt a b = true) : lt b a = false := by
  cases hb : lt b a with
  | false => rfl
  | true => have := h.tr hab hb; rw [h.irr] at this; cases this
/-- by the comparison; what is alike, by its tag -/
def TL (lt : α → α → Bool) (x y : α × Nat) : Prop := lt x.1 y.1 = true ∨ (lt y.1 x.1 = false ∧ x.2 < y.2)
theorem TL.irr (h : Wk0 lt) (x : α × Nat) : ¬ TL lt x x := by
  rintro (h1 | ⟨_, h1⟩)
  · rw [h.irr] at h1; cases h1
  · omega
theorem TL.tr (h : Wk0 lt) {x y z : α × Nat} (h1 : TL lt x y) (h2 : TL lt y z) : TL lt x z := by
  rcases h1 with h1 | ⟨h1, t1⟩ <;> rcases h2 with h2 | ⟨h2, t2⟩
  · exact .inl (h.tr h1 h2)
  · rcases h.co z.1 h1 with h3 | h3
    · exact .inl h3
    · rw [h2] at h3; cases h3
  · rcases h.co x.1 h2 with h3 | h3
    · rw [h1] at h3; cases h3
    · exact .inl h3
  · refine .inr ⟨?_, by omega⟩
    cases h3 : lt z.1 x.1 with
    | false => rfl
    | true =>
      rcases h.co y.1 h3 with h4 | h4
      · rw [h2] at h4; cases h4
      · rw [h1] at h4; cases h4
theorem TL.as (h : Wk0 lt) {x y : α × Nat} (h1 : TL lt x y) : ¬ TL lt y x := fun h2 => TL.irr h _ (h1.tr h h2)
/-- one of a later block against one of an earlier one -/
theorem TL.back {u v : α × Nat} (h : Wk0 lt) (ht : u.2 < v.2) : TL lt v u ↔ lt v.1 u.1 = true := by
  unfold TL
  constructor
  · rintro (h1 | ⟨_, h1⟩)
    · exact h1
    · omega
  · exact .inl
theorem TL.fore {u v : α × Nat} (h : Wk0 lt) (ht : u.2 < v.2) : TL lt u v ↔ lt v.1 u.1 = false := by
  unfold TL
  constructor
  · rintro (h1 | ⟨h1, _⟩)
    · exact h.as h1
    · exact h1
  · intro h1; exact .inr ⟨h1, ht⟩
def Srt (lt : α → α → Bool) (l : List (α × Nat)) : Prop := l.Pairwise (TL lt)
theorem Srt.uniq (h : Wk0 lt) : ∀ {l l' : List (α × Nat)}, Srt lt l → Srt lt l' → l.Perm l' → l = l'
  | [], l', _, _, hp => by simpa using hp.symm.eq_nil
  | x :: l, [], _, _, hp => by simpa using hp.eq_nil
  | x :: l, y :: l', h1, h2, hp => by
    have hx := List.pairwise_cons.1 h1; have hy := List.pairwise_cons.1 h2
    have e : x = y := by
      have m1 : x ∈ y :: l' := hp.mem_iff.1 (List.mem_cons_self ..)
      have m2 : y ∈ x :: l := hp.mem_iff.2 (List.mem_cons_self ..)
      rcases List.mem_cons.1 m1 with e | m1
      · exact e
      · rcases List.mem_cons.1 m2 with e | m2
        · exact e.symm
        · exact absurd (hy.1 x m1) (TL.as h (hx.1 y m2))
    subst e
    rw [Srt.uniq h hx.2 hy.2 (List.Perm.cons_inv hp)]
/-- one more, behind all that are not above it -/
def insS (lt : α → α → Bool) (l : List α) (m : α) : List α := l.takeWhile (fun x => !lt m x) ++ m :: l.dropWhile (fun x => !lt m x)
def insT (lt : α → α → Bool) (l : List (α × Nat)) (m : α × Nat) : List (α × Nat) := l.takeWhile (fun x => !lt m.1 x.1) ++ m :: l.dropWhile (fun x => !lt m.1 x.1)
theorem insT_fst (l : List (α × Nat)) (m : α × Nat) : (insT lt l m).map (·.1) = insS lt (l.map (·.1)) m.1 := by
  unfold insT insS
  rw [List.map_append, List.map_cons, List.takeWhile_map, List.dropWhile_map]; rfl
theorem insT_perm (l : List (α × Nat)) (m : α × Nat) : (insT lt l m).Perm (l ++ [m]) := by
  unfold insT
  have h1 : (l.takeWhile (fun x => !lt m.1 x.1) ++ m :: l.dropWhile (fun x => !lt m.1 x.1)).Perm (m :: (l.takeWhile (fun x => !lt m.1 x.1) ++ l.dropWhile (fun x => !lt m.1 x.1))) := List.perm_middle
  rw [List.takeWhile_append_dropWhile] at h1
  exact h1.trans (List.perm_append_comm (l₁ := [m]) (l₂ := l))
theorem insT_srt (h : Wk0 lt) {l : List (α × Nat)} {m : α × Nat} (hs : Srt lt l) (ht : ∀ x ∈ l, x.2 < m.2) : Srt lt (insT lt l m) := by
  unfold insT
  have hl := List.takeWhile_append_dropWhile (p := fun x : α × Nat => !lt m.1 x.1) (l := l)
  have hs' := hs
  unfold Srt at hs' ⊢
  rw [← hl] at hs'
  obtain ⟨s1, s2, s3⟩ := List.pairwise_append.1 hs'
  have hd : ∀ y ∈ l.dropWhile (fun x => !lt m.1 x.1), TL lt m y := by
    intro y hy
    cases hdw : l.dropWhile (fun x => !lt m.1 x.1) with
    | nil => rw [hdw] at hy; cases hy
    | cons z r =>
      have hz : lt m.1 z.1 = true := by
        have := List.head?_dropWhile_not (fun x : α × Nat => !lt m.1 x.1) l
        rw [hdw] at this
        simpa using this
      rw [hdw] at hy s2
      rcases List.mem_cons.1 hy with rfl | hy
      · exact .inl hz
      · exact TL.tr h (.inl hz) ((List.pairwise_cons.1 s2).1 y hy)
  have ht' : ∀ x ∈ l.takeWhile (fun x => !lt m.1 x.1), TL lt x m := by
    intro x hx
    have hp : (!lt m.1 x.1) = true := by
      have := List.all_takeWhile (p := fun x : α × Nat => !lt m.1 x.1) (l := l)
      exact List.all_eq_true.1 this x hx
    have hxl : x ∈ l := by rw [← hl]; exact List.mem_append_left _ hx
    exact .inr ⟨by simpa using hp, ht x hxl⟩
  refine List.pairwise_append.2 ⟨s1, List.pairwise_cons.2 ⟨hd, s2⟩, fun x hx y hy => ?_⟩
  rcases List.mem_cons.1 hy with rfl | hy
  · exact ht' x hx
  · exact s3 x hx y hy
/-- sorted, what is alike as it stood -/
def sortS (lt : α → α → Bool) (l : List α) : List α := l.foldl (insS lt) []
theorem foldT (h : Wk0 lt) : ∀ (l : List α) (k : Nat) (acc : List (α × Nat)), Srt lt acc → (∀ x ∈ acc, x.2 < k) → ∃ T, Srt lt T ∧ T.Perm (acc ++ l.zipIdx k) ∧ T.map (·.1) = l.foldl (insS lt) (acc.map (·.1))
  | [], k, acc, hs, _ => ⟨acc, hs, by simp, rfl⟩
  | m :: l, k, acc, hs, hk => by
    obtain ⟨T, h1, h2, h3⟩ := foldT h l (k + 1) (insT lt acc (m, k)) (insT_srt h hs hk) (fun x hx => by
      rcases List.mem_append.1 ((insT_perm acc (m, k)).mem_iff.1 hx) with hx | hx
      · have := hk x hx; omega
      · rw [List.mem_singleton.1 hx]; show k < k + 1; omega)
    refine ⟨T, h1, h2.trans ?_, ?_⟩
    · rw [List.zipIdx_cons, show acc ++ (m, k) :: l.zipIdx (k + 1) = (acc ++ [(m, k)]) ++ l.zipIdx (k + 1) by simp]
      exact (insT_perm acc (m, k)).append_right _
    · rw [h3, insT_fst]; rfl
theorem sortS_spec (h : Wk0 lt) (l : List α) : ∃ T, Srt lt T ∧ T.Perm (l.zipIdx 0) ∧ T.map (·.1) = sortS lt l := by
  obtain ⟨T, h1, h2, h3⟩ := foldT h l 0 [] .nil (fun _ h => by cases h)
  exact ⟨T, h1, by simpa using h2, h3⟩
/-- whatever is sorted so, with tags, is that -/
theorem sortS_of (h : Wk0 lt) {l : List α} {T : List (α × Nat)} (hs : Srt lt T) (hp : T.Perm (l.zipIdx 0)) : T.map (·.1) = sortS lt l := by
  obtain ⟨T', h1, h2, h3⟩ := sortS_spec h l
  rw [← h3, Srt.uniq h hs h1 (hp.trans h2.symm)]
theorem insS_perm (l : List α) (m : α) : (insS lt l m).Perm (l ++ [m]) := by
  unfold insS
  have h1 : (l.takeWhile (fun x => !lt m x) ++ m :: l.dropWhile (fun x => !lt m x)).Perm (m :: (l.takeWhile (fun x => !lt m x) ++ l.dropWhile (fun x => !lt m x))) := List.perm_middle
  rw [List.takeWhile_append_dropWhile] at h1
  exact h1.trans (List.perm_append_comm (l₁ := [m]) (l₂ := l))
theorem foldS_perm : ∀ (m l : List α), (m.foldl (insS lt) l).Perm (l ++ m)
  | [], l => by simp
  | x :: m, l => by
    rw [List.foldl_cons]
    refine (foldS_perm m _).trans ?_
    rw [show l ++ x :: m = (l ++ [x]) ++ m by simp]
    exact (insS_perm l x).append_right _
theorem sortS_perm (l : List α) : (sortS lt l).Perm l := by have := foldS_perm (lt := lt) l []; simpa [sortS] using this
theorem sortS_len (l : List α) : (sortS lt l).length = l.length := (sortS_perm l).length_eq
end
end Go.Tan

namespace Go.Tan
open Go.RowKit
theorem flat_tk {α : Type} {enc : α → List Value} {sz : Nat} : ∀ {xs : List α} {q : Nat}, (∀ y ∈ xs, (enc y).length = sz) → (xs.take q).flatMap enc = (xs.flatMap enc).take (q * sz)
  | [], q, _ => by simp
  | x :: xs, 0, _ => by simp
  | x :: xs, q + 1, h => by
    have hx := h x (List.mem_cons_self ..)
    rw [List.take_succ_cons, List.flatMap_cons, List.flatMap_cons, show (q + 1) * sz = (enc x).length + q * sz by rw [hx, Nat.succ_mul]; omega, List.take_length_add_append, flat_tk (fun y hy => h y (List.mem_cons_of_mem _ hy))]
theorem flat_dr {α : Type} {enc : α → List Value} {sz : Nat} : ∀ {xs : List α} {q : Nat}, (∀ y ∈ xs, (enc y).length = sz) → (xs.drop q).flatMap enc = (xs.flatMap enc).drop (q * sz)
  | [], q, _ => by simp
  | x :: xs, 0, _ => by simp
  | x :: xs, q + 1, h => by
    have hx := h x (List.mem_cons_self ..)
    rw [List.drop_succ_cons, List.flatMap_cons, show (q + 1) * sz = (enc x).length + q * sz by rw [hx, Nat.succ_mul]; omega, List.drop_length_add_append, flat_dr (fun y hy => h y (List.mem_cons_of_mem _ hy))]
section
variable {dr : Bool} {mc : Md} {P : Program} {n : Nat} {l : List Oper} {K : Env → PM → Mem → Prop} {i : Nat} {σ : List Nat} {ρ : Env} {G : PM} {μ : Mem}
variable {d t : Nat} {p : String} {af : Array Edge} {g : Option (Nat × Bool)} {c : Bool}
/-- 'a >> 1' of a natural number -/
theorem sr1 {T T' : TypeId} {x y : Operand} {k k' : IntKind} {a1 a2 : Int} (A : Nat) (ho : nth l i = some ⟨some d, .binOp .shr T x y T', t, p, af, g⟩) (hg : Gd l ρ g c) (hx : Ev ρ c x (.int k a1)) (hy : Ev ρ c y (.int k' a2)) (e1 : a1 = A) (e2 : a2 = 1) (hk : 1 ≤ k.bits)
    (h : Wo dr mc P n l K σ ((d, c, .int k ((A / 2 : Nat) : Int)) :: ρ) G μ) : Wo dr mc P n l K (i :: σ) ρ G μ := by
  subst e1; subst e2
  refine sr ho hg hx hy (fun _ => by decide) ?_
  have e : (A : Int).fdiv (2 ^ (min (1 : Int).toNat k.bits)) = ((A / 2 : Nat) : Int) := by
    have : min (1 : Int).toNat k.bits = 1 := by show min 1 k.bits = 1; omega
    rw [this, Int.pow_one, Int.fdiv_eq_ediv_of_nonneg _ (by decide)]
    rfl
  rw [e]; exact h
/-- 'xs[lo:hi:mx]' that is looked at no more -/
theorem s3 {T e sz by' : Nat} {x y z u : Operand} {b m cap : Nat} {k1 k2 k3 : IntKind} {lo hi mx : Int} (ho : nth l i = some ⟨some d, .slice T x (some y) (some z) (some u), t, p, af, none⟩) (hT : slE P T = some (e, sz, by')) (hx : Ev ρ true x (.slice (some ⟨b, 0, none⟩) m cap)) (hy : Ev ρ true y (.int k1 lo)) (hz : Ev ρ true z (.int k2 hi)) (hu : Ev ρ true u (.int k3 mx))
    (h0 : 0 ≤ lo) (h1 : lo ≤ hi) (h2 : hi ≤ mx) (h3 : mx ≤ cap) (h : ∀ v, Wo dr mc P n l K σ ((d, true, v) :: ρ) G μ) : Wo dr mc P n l K (i :: σ) ρ G μ := by
  obtain ⟨hu', inf, hi', hs1, hb1⟩ := slE_some hT
  refine .pure (v := .slice (if mx.toNat = lo.toNat then (some ⟨b, 0, none⟩ : Option Addr) else (some ⟨b, 0, none⟩ : Option Addr).map (·.add (lo.toNat * inf.size))) (hi.toNat - lo.toNat) (mx.toNat - lo.toNat)) ho (.inl rfl) .no (fun hc a w ha => ?_) (h _)
  simp [execOp, hx.eval ha rfl, hy.eval ha rfl, hz.eval ha rfl, hu.eval ha rfl, Instr.sliceAt, run_underlying hu', Instr.slice, Instr.sliceBounds, Instr.sliceBound, asIntOf, show 0 ≤ hi by omega, show 0 ≤ mx by omega, h0, sizeOf, typeInfo, hi']
  repeat' split
  all_goals first | rfl | (exfalso; omega) | (simp; done) | skip
/-- 'xs[:hi]' of a row of one's own -/
theorem srh {T e sz by' : Nat} {x z : Operand} {b m cap : Nat} {k : IntKind} {hi : Int} (q : Nat) (ho : nth l i = some ⟨some d, .slice T x none (some z) none, t, p, af, none⟩) (hT : slE P T = some (e, sz, by')) (hx : Ev ρ true x (.slice (some ⟨b, 0, none⟩) m cap)) (hz : Ev ρ true z (.int k hi))
    (hq : hi = q) (h1 : q ≤ cap) (h : Wo dr mc P n l K σ ((d, true, .slice (some ⟨b, 0, none⟩) q cap) :: ρ) G μ) : Wo dr mc P n l K (i :: σ) ρ G μ := by
  subst hq
  exact se (s := ⟨some ⟨b, 0, none⟩, cap⟩) (m := m) ho .no hT hx hz (fun _ => by omega) (fun _ => by show (q : Int) ≤ cap; omega) (by rw [Int.toNat_natCast]; exact h)
/-- 'xs[lo:]' of a row of one's own -/
theorem slz {T e sz by' b m cap : Nat} {x y : Operand} {k : IntKind} {lo : Int} (q : Nat) (ho : nth l i = some ⟨some d, .slice T x (some y) none none, t, p, af, none⟩) (hT : slE P T = some (e, sz, by')) (hx : Ev ρ true x (.slice (some ⟨b, 0, none⟩) m cap)) (hy : Ev ρ true y (.int k lo))
    (hq : lo = q) (h1 : q ≤ m) (h2 : m ≤ cap) (h : ∀ oa, (q < m → oa = some ⟨b, q * sz, none⟩) → Wo dr mc P n l K σ ((d, true, .slice oa (m - q) (cap - q)) :: ρ) G μ) : Wo dr mc P n l K (i :: σ) ρ G μ := by
  by_cases h3 : q < cap
  · exact slr q ho hT hx hy hq h1 h2 h3 (h _ fun _ => rfl)
  · refine .pure ho (.inl rfl) .no (fun _ a w ha => ?_) (h (some ⟨b, 0, none⟩) (fun h4 => absurd h4 (by omega)))
    obtain ⟨hu, inf, hi, rfl, rfl⟩ := slE_some hT
    subst hq
    have hx' := hx.eval ha rfl
    have hn : cap = q := by omega
    simp [execOp, hx', hy.eval ha rfl, Instr.sliceAt, run_underlying hu, Instr.slice, Instr.sliceBounds, Instr.sliceBound, asIntOf, sizeOf, typeInfo, hi, h1, h2, hn]
    try omega
/-- 'xs[lo:hi]' of a row of one's own -/
theorem sll {T e sz by' b m cap : Nat} {x y z : Operand} {k k' : IntKind} {lo hi : Int} (q r : Nat) (ho : nth l i = some ⟨some d, .slice T x (some y) (some z) none, t, p, af, none⟩) (hT : slE P T = some (e, sz, by')) (hx : Ev ρ true x (.slice (some ⟨b, 0, none⟩) m cap)) (hy : Ev ρ true y (.int k lo)) (hz : Ev ρ true z (.int k' hi))
    (hq : lo = q) (hr : hi = r) (h1 : q ≤ r) (h2 : r ≤ cap) (h3 : q < cap) (h : Wo dr mc P n l K σ ((d, true, .slice (some ⟨b, q * sz, none⟩) (r - q) (cap - q)) :: ρ) G μ) : Wo dr mc P n l K (i :: σ) ρ G μ := by
  subst hq; subst hr
  refine sc (s := ⟨some ⟨b, 0, none⟩, cap⟩) (m := m) ho .no hT hx hy hz (fun _ => by omega) (fun _ => by omega) (fun _ => by show (r : Int) ≤ cap; omega) ?_
  have e1 : (Sh.cut ⟨some ⟨b, 0, none⟩, cap⟩ (q : Int).toNat sz).val ((r : Int).toNat - (q : Int).toNat) = .slice (some ⟨b, q * sz, none⟩) (r - q) (cap - q) := by
    simp only [Int.toNat_natCast, Sh.cut, Sh.val, if_neg (show ¬ cap = q by omega), Option.map_some, add_lit, Nat.zero_add]
  rw [e1]; exact h
theorem run_apD {T E ty by' sz b m cap q r cp : Nat} {xs : List Value} {oa : Option Addr} {w : World} (hT : slE P T = some (E, sz, by')) (hs : Sat G [.row (.slice (some ⟨b, 0, none⟩) m cap) E sz m xs] w) (hq : q ≤ r) (hr : r ≤ m) (hoa : r < m → oa = some ⟨b, r * sz, none⟩) (h1 : ∀ u ∈ xs, u.oneCell' = true) :
    ∃ w', (Builtin.append_ #[T, T] ty #[.slice (some ⟨b, 0, none⟩) q cap, .slice oa (m - r) cp]).run P w = .ok (.slice (some ⟨b, 0, none⟩) (q + (m - r)) cap) w' ∧ Tr G [b] w G [.row (.slice (some ⟨b, 0, none⟩) (q + (m - r)) cap) E sz (q + (m - r)) (xs.take (q * sz) ++ xs.drop (r * sz))] w' := by
  obtain ⟨hu, inf, hi, rfl, rfl⟩ := slE_some hT
  have hown : w.ownsRow 0 E inf.size (.slice (some ⟨b, 0, none⟩) m cap) m xs := hs.own _ (List.mem_singleton.2 rfl)
  have hxl := hown.1
  rcases hown.2 with ⟨e, _⟩ | ⟨g, cap', cur, e, _, hg, hnc, hcm, hcs, htake⟩
  · cases e
  · simp only [Value.slice.injEq, Option.some.injEq, Addr.mk.injEq, and_true, true_and] at e
    obtain ⟨rfl, rfl⟩ := e
    have hsat : Sat G [.blk b (.cells cur E (0, 0))] w := ⟨hs.sub, fun r hr => by rw [List.mem_singleton.1 hr]; exact hg, fun c hc => hs.apart c (by simpa [keys, Res.keys, Value.ownBlock] using hc), by simp [keys, Res.keys]⟩
    have hqs : q * inf.size ≤ r * inf.size := Nat.mul_le_mul_right _ hq
    have hrs : r * inf.size ≤ m * inf.size := Nat.mul_le_mul_right _ hr
    have hms : m * inf.size ≤ cap * inf.size := Nat.mul_le_mul_right _ hnc
    have hcl : cur.toList.length = cur.size := Array.length_toList ..
    have hnl : (xs.drop (r * inf.size)).length = (m - r) * inf.size := by rw [List.length_drop, hxl, Nat.sub_mul]
    have hsub : (m - r) * inf.size = m * inf.size - r * inf.size := Nat.sub_mul ..
    have hlen : (xs.take (q * inf.size) ++ xs.drop (r * inf.size)).length = (q + (m - r)) * inf.size := by
      rw [List.length_append, hnl, List.length_take, Nat.add_mul, hxl]; omega
    have hpre : cur.toList.take (q * inf.size) = xs.take (q * inf.size) := by
      rw [← htake, List.take_take, Nat.min_eq_left (by omega)]
    by_cases hk : m - r = 0
    · rw [hk]
      have hd : xs.drop (r * inf.size) = [] := List.drop_of_length_le (by rw [hxl]; exact Nat.mul_le_mul_right _ (by omega))
      rw [hd, List.append_nil, Nat.add_zero]
      refine ⟨w, ?_, ?_⟩
      · have hqc : q ≤ cap := by omega
        cases oa <;> simp [Builtin.append_, run_underlying hu, sizeOf, typeInfo, hi, Builtin.lenOf, Builtin.firstCells, loadCells, loadCellsFrom, hqc, storeCells]
      · have := (Tr.begin hsat).asRow (m := q) (cap := cap) (sz := inf.size) (xs := xs.take (q * inf.size)) (by rw [List.length_take, hxl]; omega) (by omega) hcm hcs hpre
        simpa [keys, Res.keys] using this
    · obtain rfl := hoa (by omega)
      have hnews : ∀ j u, (xs.drop (r * inf.size))[j]? = some u → w.cell? ((⟨b, r * inf.size, none⟩ : Addr).add j) = some u := by
        intro j u hj
        rw [List.getElem?_drop] at hj
        have := hown.cells (g := b) rfl (r * inf.size + j) u hj
        rw [add_lit, Nat.zero_add] at this
        rw [add_lit]; exact this
      have hroom : q + (m - r) ≤ cap := by omega
      have hfit : q * inf.size + (xs.drop (r * inf.size)).length ≤ cur.size := by rw [hnl, hcs, ← Nat.add_mul]; exact Nat.mul_le_mul_right _ hroom
      have hrun := run_append_room (P := P) w T ty E inf hu hi b q cap cur hg ⟨b, r * inf.size, none⟩ (m - r) cp (xs.drop (r * inf.size)) hnl hnews (fun u hu => h1 u (List.mem_of_mem_drop hu)) hroom hfit
      refine ⟨_, hrun, ?_⟩
      have h2 := Tr.setArr (cs' := (cur.toList.take (q * inf.size) ++ xs.drop (r * inf.size) ++ cur.toList.drop (q * inf.size + (xs.drop (r * inf.size)).length)).toArray) hsat
      refine h2.asRow (m := q + (m - r)) (cap := cap) (sz := inf.size) hlen hroom hcm ?_ ?_
      · simp only [List.size_toArray, List.length_append, List.length_take, List.length_drop, hcl]
        rw [List.length_drop] at hfit
        omega
      · rw [hpre, ← hlen]
        exact List.take_left
/-- 'append(xs[:q], xs[r:]...)' in place -/
theorem apD {α : Type} {enc : α → List Value} {T E sz by' b cap q r cp : Nat} {x y : Operand} {xs : List α} {oa : Option Addr} {μ' : Mem} (ho : nth l i = some ⟨some d, .call { callee := .builtin .append, args := #[x, y], argTypes := #[T, T] }, t, p, af, none⟩) (hT : slE P T = some (E, sz, by'))
    (hx : Ev ρ true x (.slice (some ⟨b, 0, none⟩) q cap)) (hy : Ev ρ true y (.slice oa (xs.length - r) cp)) (hm : MTake μ (rS sz enc (.slice (some ⟨b, 0, none⟩) xs.length cap) E xs) μ') (hoa : r < xs.length → oa = some ⟨b, r * sz, none⟩) (hsz : ∀ y ∈ xs, (enc y).length = sz) (h1 : ∀ u ∈ xs.flatMap enc, u.oneCell' = true) (hq : q ≤ r) (hr : r ≤ xs.length)
    (h : Wo dr mc P n l K σ ((d, true, .slice (some ⟨b, 0, none⟩) (xs.take q ++ xs.drop r).length cap) :: ρ) G (rS sz enc (.slice (some ⟨b, 0, none⟩) (xs.take q ++ xs.drop r).length cap) E (xs.take q ++ xs.drop r) :: μ')) (hmc : mc.a = false ∨ dr = false := by first | exact .inl rfl | exact .inr rfl) : Wo dr mc P n l K (i :: σ) ρ G μ := by
  have hl0 : (xs.take q ++ xs.drop r).length = q + (xs.length - r) := by rw [List.length_append, List.length_take, List.length_drop]; omega
  rw [hl0] at h
  refine .act (μ₁ := [rS sz enc (.slice (some ⟨b, 0, none⟩) xs.length cap) E xs]) (μ₂ := μ') (post := fun G' μ' v' => G' = G ∧ v' = .slice (some ⟨b, 0, none⟩) (q + (xs.length - r)) cap ∧ μ' = [rS sz enc (.slice (some ⟨b, 0, none⟩) (q + (xs.length - r)) cap) E (xs.take q ++ xs.drop r)]) ho (by rcases hmc with h | h <;> simp [kindOf, h]) .no hm.perm (fun a w ha hs => .inl ?_) ?_
  · obtain ⟨w', hrun, ht⟩ := run_apD (ty := t) (cp := cp) hT hs.left hq hr hoa h1
    refine ⟨_, w', G, _, .inl (by simp [execOp, resolve, invoke, builtin, hx.eval ha rfl, hy.eval ha rfl, hrun]), ?_, rfl, rfl, rfl⟩
    have hl : (xs.take q ++ xs.drop r).length = q + (xs.length - r) := by rw [List.length_append, List.length_take, List.length_drop]; omega
    have e1 : (xs.take q ++ xs.drop r).flatMap enc = (xs.flatMap enc).take (q * sz) ++ (xs.flatMap enc).drop (r * sz) := by
      rw [List.flatMap_append, flat_tk hsz, flat_dr hsz]
    have hk : keys [rS sz enc (.slice (some ⟨b, 0, none⟩) xs.length cap) E xs] = [b] := by simp [keys, Res.keys, Value.ownBlock]
    rw [hk]
    show Tr G [b] w G [.row _ E sz (xs.take q ++ xs.drop r).length ((xs.take q ++ xs.drop r).flatMap enc)] w'
    rw [hl, e1]; exact ht
  · rintro v' G' μ'' _ ⟨rfl, rfl, rfl⟩
    exact h
/-- 'clear(xs[n:n+k])' behind a row of one's own -/
theorem clT {α : Type} {enc : α → List Value} {T E sz by' b cap k cp : Nat} {x : Operand} {z : Value} {xs : List α} {μ' : Mem} {dd : Option Nat} (ho : nth l i = some ⟨dd, .call { callee := .builtin .clear, args := #[x], argTypes := #[T] }, t, p, af, none⟩) (hT : slE P T = some (E, sz, by')) (hz : (P.info? E).bind (·.zero) = some z) (hzs : z.cells.size = sz) (hz1 : ∀ u ∈ z.cells, u.oneCell' = true)
    (hx : Ev ρ true x (.slice (some ⟨b, xs.length * sz, none⟩) k cp)) (hm : MTake μ (rS sz enc (.slice (some ⟨b, 0, none⟩) xs.length cap) E xs) μ') (h0 : 0 < k) (hk : xs.length + k ≤ cap) (hsz : ∀ y ∈ xs, (enc y).length = sz)
    (h : Wo dr mc P n l K σ (lay ρ dd true (.tuple #[])) G (rS sz enc (.slice (some ⟨b, 0, none⟩) xs.length cap) E xs :: μ')) : Wo dr mc P n l K (i :: σ) ρ G μ := by
  refine .act (μ₁ := [rS sz enc (.slice (some ⟨b, 0, none⟩) xs.length cap) E xs]) (μ₂ := μ') (post := fun G' μ' v' => G' = G ∧ v' = .tuple #[] ∧ μ' = [rS sz enc (.slice (some ⟨b, 0, none⟩) xs.length cap) E xs]) ho (.inl rfl) .no hm.perm (fun a w ha hs => .inl ?_) ?_
  · have hs' := hs.left
    have hrow : w.ownsRow 0 E sz (.slice (some ⟨b, 0, none⟩) xs.length cap) xs.length (xs.flatMap enc) := hs'.own _ (List.mem_singleton.2 rfl)
    have hfl := flat_len hsz
    obtain ⟨hu, inf, hi, rfl, rfl⟩ := slE_some hT
    rw [hi] at hz
    simp only [Option.bind_some] at hz
    rcases hrow.2 with ⟨e, _⟩ | ⟨g, cap', cur, e, _, hg, hnc, hcm, hcs, htake⟩
    · cases e
    · simp only [Value.slice.injEq, Option.some.injEq, Addr.mk.injEq, and_true, true_and] at e
      obtain ⟨rfl, rfl⟩ := e
      have hsat : Sat G [.blk b (.cells cur E (0, 0))] w := ⟨hs'.sub, fun r hr => by rw [List.mem_singleton.1 hr]; exact hg, fun c hc => hs'.apart c (by simpa [keys, Res.keys, Value.ownBlock] using hc), by simp [keys, Res.keys]⟩
      have hzl : (Builtin.zeroCells z.cells k).toList.length = k * inf.size := by rw [Array.length_toList, size_zeroCells, hzs]
      have hin : xs.length * inf.size + k * inf.size ≤ cap * inf.size := by rw [← Nat.add_mul]; exact Nat.mul_le_mul_right _ hk
      have hz2 : ∀ u ∈ (Builtin.zeroCells z.cells k).toList, u.oneCell' = true := by
        intro u hu
        rw [Array.mem_toList_iff] at hu
        unfold Builtin.zeroCells at hu
        obtain ⟨j, hj, rfl⟩ := Array.mem_map.1 hu
        have hjs : j % z.cells.size < z.cells.size := Nat.mod_lt _ (by
          rcases Nat.eq_zero_or_pos z.cells.size with h0' | h0'
          · rw [h0'] at hj; simp at hj
          · exact h0')
        have : z.cells[j % z.cells.size]! = z.cells[j % z.cells.size] := by simp [hjs]
        rw [this]
        exact hz1 _ (Array.getElem_mem hjs)
      have hst := run_storeCells_at P b (xs.length * inf.size) E (Builtin.zeroCells z.cells k).toList 0 cur w hg (by rw [Nat.add_zero, hzl]; omega) hz2
      simp only [Nat.add_zero] at hst
      refine ⟨.tuple #[], w.setRow b (cur.toList.take (xs.length * inf.size) ++ (Builtin.zeroCells z.cells k).toList ++ cur.toList.drop (xs.length * inf.size + (Builtin.zeroCells z.cells k).toList.length)).toArray, G, _, .inl (by
        have hk0 : k ≠ 0 := by omega
        simp [execOp, resolve, invoke, builtin, hx.eval ha rfl, Builtin.clear_, run_underlying hu, zeroValue, typeInfo, hi, hz, hst]), ?_, rfl, rfl, rfl⟩
      have hkk : keys [rS inf.size enc (.slice (some ⟨b, 0, none⟩) xs.length cap) E xs] = [b] := by simp [keys, Res.keys, Value.ownBlock]
      rw [hkk]
      have h2 := Tr.setArr (cs' := (cur.toList.take (xs.length * inf.size) ++ (Builtin.zeroCells z.cells k).toList ++ cur.toList.drop (xs.length * inf.size + (Builtin.zeroCells z.cells k).toList.length)).toArray) hsat
      have hcl : cur.toList.length = cur.size := Array.length_toList ..
      refine h2.asRow (m := xs.length) (cap := cap) (sz := inf.size) hfl (by omega) hcm ?_ ?_
      · simp only [List.size_toArray, List.length_append, List.length_take, List.length_drop, hcl, hzl]
        omega
      · rw [List.append_assoc, List.take_append_of_le_length (by rw [List.length_take, hcl]; omega), List.take_take, Nat.min_self, htake]
  · rintro v' G' μ'' _ ⟨rfl, rfl, rfl⟩
    exact h
end
theorem Ct.lendS {α : Type} {enc : α → List Value} {sz : Nat} {P : Program} {G : PM} {μ : Mem} {f : FuncId} {args : Array Value} {E : Nat} {v : Value} {xs : List α} {Q : Mem → Value → Prop} (hsz : ∀ x ∈ xs, (enc x).length = sz)
    (h : ∀ (s : Sh) (G2 : PM), PM.le G G2 → v = s.val xs.length → SlR G2 sz enc s xs → Ct P f args G2 μ (fun _ μ' u => Q μ' u)) : Ct P f args G (rS sz enc v E xs :: μ) (fun _ μ' u => ∃ ν, μ' = rS sz enc v E xs :: ν ∧ Q ν u) := by
  intro w hs
  have hrow : w.ownsRow 0 E sz v xs.length (xs.flatMap enc) := hs.own _ (List.mem_cons_self ..)
  have hnd := hs.nodup
  rcases hrow.2 with ⟨rfl, h0⟩ | ⟨g, cap, cur, rfl, _, hg, hnc, hcm, hcs, htake⟩
  · have hx : xs = [] := List.eq_nil_of_length_eq_zero h0
    subst hx
    have hk : keys (rS sz enc (.slice none 0 0) E ([] : List α) :: μ) = keys μ := by simp [keys, Res.keys, Value.ownBlock]
    have hs2 : Sat G μ w := ⟨hs.sub, fun r hr => hs.own r (List.mem_cons_of_mem _ hr), by rw [← hk]; exact hs.apart, by rw [← hk]; exact hs.nodup⟩
    refine (h ⟨none, 0⟩ G (PM.le.refl G) rfl SlR.nul w hs2).mono ?_
    rintro e w' ⟨u, G', μ', rfl, ht, hQ⟩
    refine ⟨u, G', _, rfl, ?_, μ', rfl, hQ⟩
    rw [hk]; exact ht.nilRow
  · have hk : keys (rS sz enc (.slice (some ⟨g, 0, none⟩) xs.length cap) E xs :: μ) = keys (.blk g (.cells cur E (0, 0)) :: μ) := by simp [keys, Res.keys, Value.ownBlock]
    have hs2 : Sat G (.blk g (.cells cur E (0, 0)) :: μ) w := by
      refine ⟨hs.sub, fun r hr => ?_, by rw [← hk]; exact hs.apart, by rw [← hk]; exact hs.nodup⟩
      rcases List.mem_cons.1 hr with rfl | hr
      · exact hg
      · exact hs.own r (List.mem_cons_of_mem _ hr)
    have hGg : G g = none := hs2.apart g (by simp [keys, Res.keys])
    have hsl : SlR (G.add g (.cells cur E (0, 0))) sz enc ⟨some ⟨g, 0, none⟩, cap⟩ xs := by
      refine SlR.ofRow hsz hnc (fun _ => rfl) ?_
      intro j u hj w' hs'
      show w'.cell? ⟨g, 0 + j, none⟩ = some u
      rw [Nat.zero_add, cell_of_row w' g j cur E (0, 0) (hs' g _ (PM.add_same G g _))]
      rw [← htake, List.getElem?_take] at hj
      split at hj
      · simpa using hj
      · cases hj
    refine (Ct.lend (h ⟨some ⟨g, 0, none⟩, cap⟩ _ (PM.le_add hGg) rfl hsl) w hs2).mono ?_
    rintro e w' ⟨u, G', μ', rfl, ht, ν, rfl, hQ⟩
    refine ⟨u, G', _, rfl, ?_, ν, rfl, hQ⟩
    rw [hk]
    exact ht.asRow (flat_len hsz) hnc hcm hcs htake
end Go.Tan

namespace Go.Tan
open Go.RowKit
section
variable {α : Type}
theorem gd_at {l : List α} {k : Nat} {z : α} (h : k < l.length) : l[k]? = some (l.getD k z) := by simp [h]
theorem getD_mid {X Z : List α} {x z0 : α} {i : Nat} (hi : i = X.length) : (X ++ x :: Z).getD i z0 = x := by subst hi; simp
theorem set_mid {X Z : List α} {x y : α} {i : Nat} (hi : i = X.length) : (X ++ x :: Z).set i y = X ++ y :: Z := by subst hi; simp
theorem getD_i {X Y Z L : List α} {x y z0 : α} {i : Nat} (hL : L = X ++ x :: (Y ++ y :: Z)) (hi : i = X.length) : L.getD i z0 = x := by rw [hL, getD_mid hi]
theorem getD_j {X Y Z L : List α} {x y z0 : α} {j : Nat} (hL : L = X ++ x :: (Y ++ y :: Z)) (hj : j = X.length + 1 + Y.length) : L.getD j z0 = y := by
  rw [hL, show X ++ x :: (Y ++ y :: Z) = (X ++ x :: Y) ++ y :: Z by simp, getD_mid (by simp; omega)]
/-- 'l[i], l[j] = l[j], l[i]', the lower one first -/
theorem swp_ij {X Y Z L : List α} {x y z0 : α} {i j : Nat} (hL : L = X ++ x :: (Y ++ y :: Z)) (hi : i = X.length) (hj : j = X.length + 1 + Y.length) : (L.set i (L.getD j z0)).set j (L.getD i z0) = X ++ y :: (Y ++ x :: Z) := by
  rw [getD_i hL hi, getD_j hL hj, hL, set_mid hi, show X ++ y :: (Y ++ y :: Z) = (X ++ y :: Y) ++ y :: Z by simp, set_mid (by simp; omega)]; simp
/-- .. the upper one first -/
theorem swp_ji {X Y Z L : List α} {x y z0 : α} {i j : Nat} (hL : L = X ++ x :: (Y ++ y :: Z)) (hi : i = X.length) (hj : j = X.length + 1 + Y.length) : (L.set j (L.getD i z0)).set i (L.getD j z0) = X ++ y :: (Y ++ x :: Z) := by
  rw [getD_i hL hi, getD_j hL hj, hL, show X ++ x :: (Y ++ y :: Z) = (X ++ x :: Y) ++ y :: Z by simp, set_mid (by simp; omega), show (X ++ x :: Y) ++ x :: Z = X ++ x :: (Y ++ x :: Z) by simp, set_mid hi]
def swL (P A Q B S : List α) (k : Nat) : List α := P ++ (B.take k ++ A.drop k) ++ Q ++ (A.take k ++ B.drop k) ++ S
theorem swL_zero (P A Q B S : List α) : swL P A Q B S 0 = P ++ A ++ Q ++ B ++ S := by simp [swL]
theorem swL_all {P A Q B S : List α} {k : Nat} (h : A.length = B.length) (hk : k = A.length) : swL P A Q B S k = P ++ B ++ Q ++ A ++ S := by
  subst hk
  unfold swL
  rw [List.take_of_length_le (l := B) (by omega), List.drop_of_length_le (l := A) (by omega), List.take_of_length_le (l := A) (by omega), List.drop_of_length_le (l := B) (by omega)]; simp
theorem swL_len (P A Q B S : List α) {k : Nat} (h : A.length = B.length) (hk : k ≤ A.length) : (swL P A Q B S k).length = P.length + A.length + Q.length + B.length + S.length := by
  unfold swL; simp only [List.length_append, List.length_take, List.length_drop]; omega
theorem swL_step {P A Q B S : List α} {k i j : Nat} {z0 : α} (h : A.length = B.length) (hk : k < A.length) (hi : i = P.length + k) (hj : j = P.length + A.length + Q.length + k) :
    ((swL P A Q B S k).set i ((swL P A Q B S k).getD j z0)).set j ((swL P A Q B S k).getD i z0) = swL P A Q B S (k + 1) := by
  have ea : A.drop k = A[k] :: A.drop (k + 1) := List.drop_eq_getElem_cons hk
  have eb : B.drop k = B[k] :: B.drop (k + 1) := List.drop_eq_getElem_cons (by omega)
  have ta : A.take (k + 1) = A.take k ++ [A[k]] := by rw [List.take_add_one, List.getElem?_eq_getElem hk]; rfl
  have tb : B.take (k + 1) = B.take k ++ [B[k]] := by rw [List.take_add_one, List.getElem?_eq_getElem (by omega)]; rfl
  have hL : swL P A Q B S k = (P ++ B.take k) ++ A[k] :: ((A.drop (k + 1) ++ Q ++ A.take k) ++ B[k] :: (B.drop (k + 1) ++ S)) := by
    unfold swL; rw [ea, eb]; simp only [List.append_assoc, List.cons_append]
  rw [swp_ij hL (by simp; omega) (by simp; omega)]
  unfold swL
  rw [ta, tb]; simp only [List.append_assoc, List.cons_append, List.nil_append]
end
/-- a comparison by a function value: what it tells of two -/
structure CmpR (P : Program) (f : FuncId) (vc : List Value) (cv : Meta → Meta → Int) (G : PM) : Prop where
  ok : ∀ G', PM.le G G' → ∀ a b : Meta, Ct P f ([a.val, b.val] ++ vc).toArray G' [] fun _ μ' u => μ' = [] ∧ u = .int .i64 (cv a b)
theorem CmpR.mono {P : Program} {f : FuncId} {vc : List Value} {cv : Meta → Meta → Int} {G G' : PM} (h : CmpR P f vc cv G) (hle : PM.le G G') : CmpR P f vc cv G' := ⟨fun G2 h2 => h.ok G2 (hle.trans h2)⟩
abbrev TM := Meta × Nat
def z0 : TM := (Meta.zero, 0)
def ms (T : List TM) : List Meta := T.map (·.1)
theorem ms_app (A B : List TM) : ms (A ++ B) = ms A ++ ms B := List.map_append ..
theorem ms_cons (x : TM) (B : List TM) : ms (x :: B) = x.1 :: ms B := rfl
theorem ms_len (A : List TM) : (ms A).length = A.length := List.length_map ..
def ltv (cv : Meta → Meta → Int) (a b : Meta) : Bool := decide (cv a b < 0)
/-- an element of the middle of three parts -/
theorem seg_at {X A Z : List TM} {k : Nat} (h1 : X.length ≤ k) (h2 : k < X.length + A.length) : (ms (X ++ A ++ Z)).getD k Meta.zero = (A.getD (k - X.length) z0).1 := by
  obtain ⟨d, rfl⟩ : ∃ d, k = X.length + d := ⟨k - X.length, by omega⟩
  have hd : d < A.length := by omega
  have e : (X ++ A ++ Z)[X.length + d]? = some A[d] := by rw [List.append_assoc, List.getElem?_append_right (by omega), show X.length + d - X.length = d by omega, List.getElem?_append_left hd, List.getElem?_eq_getElem hd]
  simp only [ms, List.getD_eq_getElem?_getD, List.getElem?_map, e, Option.map_some, Option.getD_some, show X.length + d - X.length = d by omega, List.getElem?_eq_getElem hd]
theorem getD_in {A : List TM} {k : Nat} (h : k < A.length) : A.getD k z0 ∈ A := by
  simp only [List.getD_eq_getElem?_getD, List.getElem?_eq_getElem h, Option.getD_some]; exact List.getElem_mem h
section
variable {lt : Meta → Meta → Bool}
theorem srt_at {A : List TM} (hs : Srt lt A) {i j : Nat} (hij : i < j) (hj : j < A.length) : TL lt (A.getD i z0) (A.getD j z0) := by
  have := List.pairwise_iff_getElem.1 hs i j (by omega) hj hij
  simpa [hj, show i < A.length by omega] using this
/-- all of a first part are below what its last is below -/
theorem fst_lt (h : Wk0 lt) {A : List TM} (hs : Srt lt A) {q : Nat} {y : TM} (hq : q = 0 ∨ TL lt (A.getD (q - 1) z0) y) (hl : q ≤ A.length) : ∀ x ∈ A.take q, TL lt x y := by
  intro x hx
  obtain ⟨i, hi, rfl⟩ := List.mem_iff_getElem.1 hx
  rw [List.length_take] at hi
  rw [List.getElem_take]
  have e : A.getD i z0 = A[i] := by simp [show i < A.length by omega]
  rw [← e]
  rcases hq with hq | hq
  · omega
  · by_cases hi' : i = q - 1
    · rw [hi']; exact hq
    · exact (srt_at hs (show i < q - 1 by omega) (by omega)).tr h hq
/-- all of a last part are above what its first is above -/
theorem lst_gt (h : Wk0 lt) {A : List TM} (hs : Srt lt A) {q : Nat} {y : TM} (hq : q = A.length ∨ TL lt y (A.getD q z0)) : ∀ x ∈ A.drop q, TL lt y x := by
  intro x hx
  obtain ⟨i, hi, rfl⟩ := List.mem_iff_getElem.1 hx
  rw [List.length_drop] at hi
  rw [List.getElem_drop]
  have e : A.getD (q + i) z0 = A[q + i] := by simp [show q + i < A.length by omega]
  rw [← e]
  rcases hq with hq | hq
  · omega
  · by_cases hi' : i = 0
    · rw [hi']; exact hq
    · exact TL.tr h hq (srt_at hs (show q < q + i by omega) (by omega))
theorem srt_parts {A : List TM} (hs : Srt lt A) (q : Nat) : Srt lt (A.take q) ∧ Srt lt (A.drop q) ∧ ∀ x ∈ A.take q, ∀ y ∈ A.drop q, TL lt x y := by
  have h := hs
  unfold Srt at h
  rw [← List.take_append_drop q A] at h
  exact List.pairwise_append.1 h
/-- one put into a sorted list -/
theorem srt_put (h : Wk0 lt) {B : List TM} {x : TM} {q : Nat} (hs : Srt lt B) (h1 : q = 0 ∨ TL lt (B.getD (q - 1) z0) x) (h2 : q = B.length ∨ TL lt x (B.getD q z0)) (hl : q ≤ B.length) : Srt lt (B.take q ++ x :: B.drop q) := by
  obtain ⟨s1, s2, s3⟩ := srt_parts hs q
  refine List.pairwise_append.2 ⟨s1, List.pairwise_cons.2 ⟨lst_gt h hs h2, s2⟩, fun a ha b hb => ?_⟩
  rcases List.mem_cons.1 hb with rfl | hb
  · exact fst_lt h hs h1 hl a ha
  · exact s3 a ha b hb
theorem put_perm {B : List TM} {x : TM} (q : Nat) : (B.take q ++ x :: B.drop q).Perm (x :: B) := by
  have := List.perm_middle (a := x) (l₁ := B.take q) (l₂ := B.drop q)
  rwa [List.take_append_drop] at this
end
end Go.Tan

namespace Go.Tan
theorem srt_take1 {lt : Meta → Meta → Bool} (S : List TM) : Srt lt (S.take 1) := by
  cases S with
  | nil => exact .nil
  | cons x S => exact List.pairwise_singleton _ _
theorem drop_getD {S : List TM} {q : Nat} (h : q < S.length) : S.drop q = S.getD q z0 :: S.drop (q + 1) := by
  rw [List.drop_eq_getElem_cons h]; simp [h]
theorem take_getD {S : List TM} {q : Nat} (h : q < S.length) : S.take (q + 1) = S.take q ++ [S.getD q z0] := by
  rw [List.take_add_one, List.getElem?_eq_getElem h]; simp [h]
theorem take_last {A B : List TM} (h : 0 < A.length) : A.take (A.length - 1) ++ A.getD (A.length - 1) z0 :: B = A ++ B := by
  have := take_getD (S := A) (q := A.length - 1) (by omega)
  rw [show A.length - 1 + 1 = A.length by omega, List.take_length] at this
  rw [show A ++ B = (A.take (A.length - 1) ++ [A.getD (A.length - 1) z0]) ++ B from congrArg (· ++ B) this]; simp
theorem ins_perm {S A B S1 : List TM} {q : Nat} (hq : q < S.length) (hAB : A ++ B = S1) (hp : S1.Perm (S.take q)) : (A ++ S.getD q z0 :: B).Perm (S.take (q + 1)) := by
  rw [take_getD hq]
  refine List.perm_middle.trans ?_
  rw [hAB]
  exact (hp.cons _).trans (List.perm_append_comm (l₁ := [S.getD q z0]) (l₂ := S.take q))
theorem ins_gj {P A B D R : List TM} {y : TM} {j : Nat} (hj : j = P.length + A.length) : (ms (P ++ (A ++ y :: B ++ D) ++ R)).getD j Meta.zero = y.1 := by
  rw [show P ++ (A ++ y :: B ++ D) ++ R = (P ++ A) ++ y :: (B ++ D ++ R) by simp, ms_app, ms_cons]
  exact getD_mid (by rw [ms_len]; simp; omega)
theorem ins_form {P A B D R : List TM} {y : TM} (hA : 0 < A.length) : ms (P ++ (A ++ y :: B ++ D) ++ R) = ms (P ++ A.take (A.length - 1)) ++ (A.getD (A.length - 1) z0).1 :: ([] ++ y.1 :: ms (B ++ D ++ R)) := by
  have h := take_last (B := y :: B) hA
  rw [← h, ← ms_cons, List.nil_append, ← ms_cons, ← ms_app]; simp
theorem ins_gi {P A B D R : List TM} {y : TM} {j : Nat} (hA : 0 < A.length) (hj : j = P.length + A.length - 1) : (ms (P ++ (A ++ y :: B ++ D) ++ R)).getD j Meta.zero = (A.getD (A.length - 1) z0).1 :=
  getD_i (ins_form hA) (by rw [ms_len]; simp; omega)
theorem ins_sw {P A B D R : List TM} {y : TM} {i j : Nat} (hA : 0 < A.length) (hi : i = P.length + A.length - 1) (hj : j = P.length + A.length) :
    ((ms (P ++ (A ++ y :: B ++ D) ++ R)).set j ((ms (P ++ (A ++ y :: B ++ D) ++ R)).getD i Meta.zero)).set i ((ms (P ++ (A ++ y :: B ++ D) ++ R)).getD j Meta.zero) = ms (P ++ (A.take (A.length - 1) ++ y :: (A.getD (A.length - 1) z0 :: B) ++ D) ++ R) := by
  rw [swp_ji (ins_form hA) (by rw [ms_len]; simp; omega) (by rw [ms_len]; simp; omega), List.nil_append, ← ms_cons, ← ms_cons, ← ms_app]; simp
theorem ins_B {cv : Meta → Meta → Int} {P A B D R : List TM} {y : TM} (hB : ∀ z ∈ B, TL (ltv cv) y z)
    (hc : 0 < A.length ∧ cv ((ms (P ++ (A ++ y :: B ++ D) ++ R)).getD (P.length + A.length) Meta.zero) ((ms (P ++ (A ++ y :: B ++ D) ++ R)).getD (P.length + A.length - 1) Meta.zero) < 0) : ∀ z ∈ A.getD (A.length - 1) z0 :: B, TL (ltv cv) y z := by
  rw [ins_gj rfl, ins_gi hc.1 rfl] at hc
  intro z hz
  rcases List.mem_cons.1 hz with rfl | hz
  · exact .inl (by unfold ltv; exact decide_eq_true hc.2)
  · exact hB z hz
theorem ins_srt {cv : Meta → Meta → Int} {P S A B S1 R : List TM} {q : Nat} (hw : Wk0 (ltv cv)) (hs : Srt (ltv cv) S1) (hAB : A ++ B = S1) (hB : ∀ z ∈ B, TL (ltv cv) (S.getD q z0) z) (hS : S.Pairwise fun x y => x.2 < y.2) (hp : S1.Perm (S.take q)) (hq : q < S.length)
    (hc : 0 < A.length → 0 ≤ cv ((ms (P ++ (A ++ S.getD q z0 :: B ++ S.drop (q + 1)) ++ R)).getD (P.length + A.length) Meta.zero) ((ms (P ++ (A ++ S.getD q z0 :: B ++ S.drop (q + 1)) ++ R)).getD (P.length + A.length - 1) Meta.zero)) : Srt (ltv cv) (A ++ S.getD q z0 :: B) := by
  have hs' := hs
  rw [← hAB] at hs'
  obtain ⟨s1, s2, s3⟩ := List.pairwise_append.1 hs'
  have hA : ∀ x ∈ A, TL (ltv cv) x (S.getD q z0) := by
    by_cases h0 : A.length = 0
    · rw [List.eq_nil_of_length_eq_zero h0]; intro x hx; cases hx
    · have h1 := hc (by omega)
      rw [ins_gj rfl, ins_gi (by omega) rfl] at h1
      have ht : (A.getD (A.length - 1) z0).2 < (S.getD q z0).2 := by
        have hm : A.getD (A.length - 1) z0 ∈ S.take q := hp.mem_iff.1 (by rw [← hAB]; exact List.mem_append_left _ (getD_in (by omega)))
        have hS' := hS
        rw [← List.take_append_drop q S, drop_getD hq] at hS'
        exact (List.pairwise_append.1 hS').2.2 _ hm _ (List.mem_cons_self ..)
      have h2 : TL (ltv cv) (A.getD (A.length - 1) z0) (S.getD q z0) := (TL.fore hw ht).2 (by unfold ltv; exact decide_eq_false (by omega))
      intro x hx
      have := fst_lt hw s1 (q := A.length) (y := S.getD q z0) (.inr h2) (Nat.le_refl _) x (by rw [List.take_length]; exact hx)
      exact this
  refine List.pairwise_append.2 ⟨s1, List.pairwise_cons.2 ⟨hB, s2⟩, fun x hx z hz => ?_⟩
  rcases List.mem_cons.1 hz with rfl | hz
  · exact hA x hx
  · exact s3 x hx z hz
end Go.Tan
namespace Go.Tan
section
variable {cv : Meta → Meta → Int} {P A B R : List TM}
theorem seg_a {i : Nat} (h : i < A.length) : (ms (P ++ A ++ B ++ R)).getD (P.length + i) Meta.zero = (A.getD i z0).1 := by
  have := seg_at (X := P) (A := A) (Z := B ++ R) (k := P.length + i) (by omega) (by omega)
  rw [show P.length + i - P.length = i by omega, ← List.append_assoc] at this
  exact this
theorem seg_b {i : Nat} (h : i < B.length) : (ms (P ++ A ++ B ++ R)).getD (P.length + A.length + i) Meta.zero = (B.getD i z0).1 := by
  have := seg_at (X := P ++ A) (A := B) (Z := R) (k := P.length + A.length + i) (by simp) (by simp; omega)
  rw [List.length_append, show P.length + A.length + i - (P.length + A.length) = i by omega] at this
  exact this
theorem seg_a0 (h : 0 < A.length) : (ms (P ++ A ++ B ++ R)).getD P.length Meta.zero = (A.getD 0 z0).1 := seg_a (i := 0) h
theorem seg_b0 (h : 0 < B.length) : (ms (P ++ A ++ B ++ R)).getD (P.length + A.length) Meta.zero = (B.getD 0 z0).1 := seg_b (i := 0) h
/-- the later one is below the earlier one -/
theorem ab_back (hw : Wk0 (ltv cv)) (ht : ∀ x ∈ A, ∀ y ∈ B, x.2 < y.2) {i j : Nat} (hi : i < A.length) (hj : j < B.length) (h : cv (B.getD j z0).1 (A.getD i z0).1 < 0) : TL (ltv cv) (B.getD j z0) (A.getD i z0) :=
  (TL.back hw (ht _ (getD_in hi) _ (getD_in hj))).2 (by unfold ltv; exact decide_eq_true h)
theorem ab_fore (hw : Wk0 (ltv cv)) (ht : ∀ x ∈ A, ∀ y ∈ B, x.2 < y.2) {i j : Nat} (hi : i < A.length) (hj : j < B.length) (h : 0 ≤ cv (B.getD j z0).1 (A.getD i z0).1) : TL (ltv cv) (A.getD i z0) (B.getD j z0) :=
  (TL.fore hw (ht _ (getD_in hi) _ (getD_in hj))).2 (by unfold ltv; exact decide_eq_false (by omega))
theorem one_eq (h : A.length = 1) : A = [A.getD 0 z0] := by
  match A, h with
  | [x], _ => rfl
/-- one that goes up by one place -/
theorem sh_up {x : TM} {k i j : Nat} (hk : k < B.length) (hi : i = P.length + k) (hj : j = P.length + k + 1) :
    ((ms (P ++ (B.take k ++ x :: B.drop k) ++ R)).set i ((ms (P ++ (B.take k ++ x :: B.drop k) ++ R)).getD j Meta.zero)).set j ((ms (P ++ (B.take k ++ x :: B.drop k) ++ R)).getD i Meta.zero) = ms (P ++ (B.take (k + 1) ++ x :: B.drop (k + 1)) ++ R) := by
  have hL : ms (P ++ (B.take k ++ x :: B.drop k) ++ R) = ms (P ++ B.take k) ++ x.1 :: ([] ++ (B.getD k z0).1 :: ms (B.drop (k + 1) ++ R)) := by
    rw [drop_getD hk, List.nil_append, ← ms_cons, ← ms_cons, ← ms_app]; simp
  rw [swp_ij hL (by rw [ms_len]; simp; omega) (by rw [ms_len]; simp; omega), take_getD hk, List.nil_append, ← ms_cons, ← ms_cons, ← ms_app]; simp
theorem sh_dn {y : TM} {e i j : Nat} (he : 0 < e) (hl : e ≤ A.length) (hi : i = P.length + e - 1) (hj : j = P.length + e) :
    ((ms (P ++ (A.take e ++ y :: A.drop e) ++ R)).set j ((ms (P ++ (A.take e ++ y :: A.drop e) ++ R)).getD i Meta.zero)).set i ((ms (P ++ (A.take e ++ y :: A.drop e) ++ R)).getD j Meta.zero) = ms (P ++ (A.take (e - 1) ++ y :: A.drop (e - 1)) ++ R) := by
  obtain ⟨k, rfl⟩ : ∃ k, e = k + 1 := ⟨e - 1, by omega⟩
  have hk : k < A.length := by omega
  have hL : ms (P ++ (A.take (k + 1) ++ y :: A.drop (k + 1)) ++ R) = ms (P ++ A.take k) ++ (A.getD k z0).1 :: ([] ++ y.1 :: ms (A.drop (k + 1) ++ R)) := by
    rw [take_getD hk, List.nil_append, ← ms_cons, ← ms_cons, ← ms_app]; simp
  rw [swp_ji hL (by rw [ms_len]; simp; omega) (by rw [ms_len]; simp; omega), show k + 1 - 1 = k by omega, drop_getD hk, List.nil_append, ← ms_cons, ← ms_cons, ← ms_app]; simp
theorem put_up (hA : A.length = 1) (q : Nat) : (B.take q ++ A.getD 0 z0 :: B.drop q).Perm (A ++ B) := by
  have := put_perm (B := B) (x := A.getD 0 z0) q
  rw [one_eq hA]; exact this
theorem put_dn (hB : B.length = 1) (q : Nat) : (A.take q ++ B.getD 0 z0 :: A.drop q).Perm (A ++ B) := by
  have := put_perm (B := A) (x := B.getD 0 z0) q
  rw [one_eq hB]; exact this.trans (List.perm_append_comm (l₁ := [B.getD 0 z0]) (l₂ := A))
/-- where the parts are cut all of the first half are below all of the second -/
theorem sym_cut (hw : Wk0 (ltv cv)) (sA : Srt (ltv cv) A) (sB : Srt (ltv cv) B) {s h : Nat} (h1 : h - B.length ≤ s) (h3 : s ≤ h) (h4 : s ≤ A.length)
    (f1 : s = h - B.length ∨ TL (ltv cv) (A.getD (s - 1) z0) (B.getD (h - s) z0)) (f2 : (s = h ∨ s = A.length) ∨ TL (ltv cv) (B.getD (h - 1 - s) z0) (A.getD s z0)) :
    ∀ x ∈ A.take s ++ B.take (h - s), ∀ y ∈ A.drop s ++ B.drop (h - s), TL (ltv cv) x y := by
  obtain ⟨a1, a2, a3⟩ := srt_parts sA s
  obtain ⟨b1, b2, b3⟩ := srt_parts sB (h - s)
  intro x hx y hy
  rcases List.mem_append.1 hx with hx | hx <;> rcases List.mem_append.1 hy with hy | hy
  · exact a3 x hx y hy
  · by_cases e : s = h - B.length
    · by_cases hb : h < B.length
      · have : s = 0 := by omega
        subst this; simp at hx
      · have : B.length ≤ h - s := by omega
        rw [List.drop_of_length_le this] at hy; cases hy
    · have h5 := fst_lt hw sA (q := s) (y := B.getD (h - s) z0) (.inr (f1.resolve_left e)) h4 x hx
      exact lst_gt hw sB (q := h - s) (y := x) (.inr h5) y hy
  · by_cases e : s = h ∨ s = A.length
    · rcases e with e | e
      · rw [e, Nat.sub_self] at hx; simp at hx
      · rw [e, List.drop_length] at hy; cases hy
    · have h5 := f2.resolve_left e
      have h6 := fst_lt hw sB (q := h - s) (y := A.getD s z0) (.inr (by rw [show h - s - 1 = h - 1 - s by omega]; exact h5)) (by omega) x hx
      exact lst_gt hw sA (q := s) (y := x) (.inr h6) y hy
  · exact b3 x hx y hy
/-- nothing to turn: the parts stand as they shall -/
theorem sym_norot {s q : Nat} (h : A.length ≤ s ∨ q = 0) : ms (P ++ A ++ B ++ R) = ms (P ++ (A.take s ++ B.take q) ++ (A.drop s ++ B.drop q) ++ R) := by
  rcases h with h | rfl
  · rw [List.take_of_length_le h, List.drop_of_length_le h, List.nil_append]
    conv => lhs; rw [← List.take_append_drop q B]
    simp
  · rw [List.take_zero, List.drop_zero, List.append_nil]
    conv => lhs; rw [← List.take_append_drop s A]
    simp only [List.append_assoc]
theorem sym_rot {s q : Nat} : ms (P ++ A.take s) ++ ms (B.take q) ++ ms (A.drop s) ++ ms (B.drop q ++ R) = ms (P ++ (A.take s ++ B.take q) ++ (A.drop s ++ B.drop q) ++ R) := by
  simp only [ms, List.map_append, List.append_assoc]
theorem sym_in {s q : Nat} : ms (P ++ A ++ B ++ R) = ms (P ++ A.take s) ++ ms (A.drop s) ++ ms (B.take q) ++ ms (B.drop q ++ R) := by
  conv => lhs; rw [← List.take_append_drop s A, ← List.take_append_drop q B]
  simp only [ms, List.map_append, List.append_assoc]
/-- a half of which one part is empty is sorted -/
theorem half_srt {X Z : List TM} {lt : Meta → Meta → Bool} (hX : Srt lt X) (hZ : Srt lt Z) (h : X.length = 0 ∨ Z.length = 0) : Srt lt (X ++ Z) := by
  rcases h with h | h
  · rw [List.eq_nil_of_length_eq_zero h]; exact hZ
  · rw [List.eq_nil_of_length_eq_zero h, List.append_nil]; exact hX
theorem sym_fin {S1 S2 : List TM} {s q : Nat} (hc : ∀ x ∈ A.take s ++ B.take q, ∀ y ∈ A.drop s ++ B.drop q, TL (ltv cv) x y) (p1 : S1.Perm (A.take s ++ B.take q)) (s1 : Srt (ltv cv) S1) (p2 : S2.Perm (A.drop s ++ B.drop q)) (s2 : Srt (ltv cv) S2) : (S1 ++ S2).Perm (A ++ B) ∧ Srt (ltv cv) (S1 ++ S2) := by
  refine ⟨(p1.append p2).trans ?_, List.pairwise_append.2 ⟨s1, s2, fun x hx y hy => hc x (p1.mem_iff.1 hx) y (p2.mem_iff.1 hy)⟩⟩
  conv => rhs; rw [← List.take_append_drop s A, ← List.take_append_drop q B]
  rw [List.append_assoc, List.append_assoc]
  refine List.Perm.append_left _ ?_
  rw [← List.append_assoc, ← List.append_assoc]
  exact List.Perm.append_right _ List.perm_append_comm
end
end Go.Tan

namespace Go.Tan
inductive Ck (lt : Meta → Meta → Bool) (bs : Nat) : List TM → List TM → Prop
  | last {s o : List TM} (h : s.length ≤ bs) (hs : Srt lt s) (hp : s.Perm o) : Ck lt bs s o
  | cons {s o T O : List TM} (h : s.length = bs) (hs : Srt lt s) (hp : s.Perm o) (hT : Ck lt bs T O) : Ck lt bs (s ++ T) (o ++ O)
section
variable {lt : Meta → Meta → Bool} {bs : Nat} {T O : List TM}
theorem Ck.perm (h : Ck lt bs T O) : T.Perm O := by
  induction h with
  | last h hs hp => exact hp
  | cons h hs hp hT ih => exact hp.append ih
theorem Ck.big (h : Ck lt bs T O) (hb : 0 < bs) (hl : T.length ≤ bs) : Srt lt T ∧ T.Perm O := by
  refine ⟨?_, h.perm⟩
  cases h with
  | last h hs hp => exact hs
  | @cons s o T O h hs hp hT =>
    rw [List.length_append] at hl
    have : T = [] := List.eq_nil_of_length_eq_zero (by omega)
    rw [this, List.append_nil]; exact hs
theorem Ck.one (h : Ck lt bs T O) (hb : 0 < bs) (hl : bs < T.length) : ∃ s o T' O', T = s ++ T' ∧ O = o ++ O' ∧ s.length = bs ∧ o.length = bs ∧ Srt lt s ∧ s.Perm o ∧ Ck lt bs T' O' ∧ 0 < T'.length := by
  cases h with
  | last h hs hp => omega
  | @cons s o T O h hs hp hT => exact ⟨s, o, T, O, rfl, rfl, h, by rw [← hp.length_eq]; exact h, hs, hp, hT, by rw [List.length_append] at hl; omega⟩
theorem Ck.two (h : Ck lt bs T O) (hb : 0 < bs) (hl : bs + bs ≤ T.length) : ∃ s1 s2 o1 o2 T' O', T = s1 ++ s2 ++ T' ∧ O = o1 ++ o2 ++ O' ∧ s1.length = bs ∧ s2.length = bs ∧ o1.length = bs ∧ o2.length = bs ∧ Srt lt s1 ∧ Srt lt s2 ∧ s1.Perm o1 ∧ s2.Perm o2 ∧ Ck lt bs T' O' := by
  obtain ⟨s1, o1, T1, O1, rfl, rfl, h1, h2, h3, h4, h5, h6⟩ := h.one hb (by omega)
  rw [List.length_append] at hl
  cases h5 with
  | last g hs hp => exact ⟨s1, T1, o1, O1, [], [], by simp, by simp, h1, by omega, h2, by rw [← hp.length_eq]; omega, h3, hs, h4, hp, .last (Nat.zero_le _) .nil (List.Perm.refl _)⟩
  | @cons s o T O g hs hp hT => exact ⟨s1, s, o1, o, T, O, by simp, by simp, h1, g, h2, by rw [← hp.length_eq]; exact g, h3, hs, h4, hp, hT⟩
theorem Ck.rest (h : Ck lt bs T O) (hb : 0 < bs) (hl : bs < T.length) (h2 : T.length < bs + bs) : ∃ s1 s2 o1 o2, T = s1 ++ s2 ∧ O = o1 ++ o2 ∧ s1.length = bs ∧ 0 < s2.length ∧ o1.length = bs ∧ Srt lt s1 ∧ Srt lt s2 ∧ s1.Perm o1 ∧ s2.Perm o2 := by
  obtain ⟨s1, o1, T1, O1, rfl, rfl, h1, h3, h4, h5, h6, h7⟩ := h.one hb hl
  rw [List.length_append] at h2
  obtain ⟨h8, h9⟩ := h6.big hb (by omega)
  exact ⟨s1, T1, o1, O1, rfl, rfl, h1, h7, h3, h4, h8, h5, h9⟩
/-- what stands before has the lower tags -/
theorem tag_lt {X Z s1 s2 o1 o2 T0 : List TM} (hT : T0.Pairwise fun x y => x.2 < y.2) (e : X ++ (o1 ++ o2 ++ Z) = T0) (h1 : s1.Perm o1) (h2 : s2.Perm o2) : ∀ x ∈ s1, ∀ y ∈ s2, x.2 < y.2 := by
  intro x hx y hy
  rw [← e] at hT
  have h3 := (List.pairwise_append.1 hT).2.1
  have h4 := (List.pairwise_append.1 h3).1
  exact (List.pairwise_append.1 h4).2.2 x (h1.mem_iff.1 hx) y (h2.mem_iff.1 hy)
theorem tag_sub {X Y Z T0 : List TM} (hT : T0.Pairwise fun x y => x.2 < y.2) (e : X ++ (Y ++ Z) = T0) : Y.Pairwise fun x y => x.2 < y.2 := by
  rw [← e] at hT
  exact (List.pairwise_append.1 (List.pairwise_append.1 hT).2.1).1
theorem ms_tags (xs : List Meta) : ms (xs.zipIdx 0) = xs := by unfold ms; simp
theorem tags_srt (xs : List Meta) : (xs.zipIdx 0).Pairwise fun x y => x.2 < y.2 := by
  refine List.pairwise_iff_getElem.2 fun i j hi hj hij => ?_
  simp only [List.getElem_zipIdx]
  show 0 + i < 0 + j
  omega
theorem ms_sort (h : Wk0 lt) {xs : List Meta} {T : List TM} (hs : Srt lt T) (hp : T.Perm (xs.zipIdx 0)) : ms T = sortS lt xs := sortS_of h hs hp
end
/-! ### The orders of a level's tables -/
def cmpN (x y : Int) : Int := if x < y then -1 else if y < x then 1 else 0
def cmpT (x y : ByteArray) : Int := if lt x y then -1 else if lt y x then 1 else 0
def lvC (i : Int) (a b : Meta) : Int := if i = 0 then cmpN b.number a.number else cmpT a.min b.min
def lvLt (i : Int) (a b : Meta) : Bool := if i = 0 then decide (b.number < a.number) else lt a.min b.min
theorem ltv_lvC (i : Int) : ltv (lvC i) = lvLt i := by
  funext a b
  unfold ltv lvC lvLt cmpN cmpT
  by_cases h : i = 0
  · simp only [h, if_true]
    split
    · rename_i h1; simp [h1]
    · rename_i h1
      split <;> simp [h1]
  · simp only [h, if_false]
    cases h1 : lt a.min b.min with
    | true => rfl
    | false => cases lt b.min a.min <;> rfl
theorem lvLt_wk (i : Int) : Wk0 (lvLt i) := by
  unfold lvLt
  by_cases h : i = 0
  · simp only [h, if_true]
    refine ⟨fun a => by simp, fun {a b c} h1 h2 => ?_, fun {a b} c h1 => ?_⟩
    · simp only [decide_eq_true_eq] at *; omega
    · simp only [decide_eq_true_eq] at *; omega
  · simp only [h, if_false]
    refine ⟨fun a => lt_irr _, fun {a b c} h1 h2 => lt_tr h1 h2, fun {a b} c h1 => ?_⟩
    rcases lt_tri a.min c.min with h2 | h2 | h2
    · exact .inl h2
    · right; rw [← h2]; exact h1
    · right; exact lt_tr h2 h1
theorem cmpT_lt {x y : ByteArray} (h : Op.bytesLess x.toList y.toList = true) : cmpT x y = -1 := by unfold cmpT; rw [if_pos (show lt x y = true from h)]
theorem cmpT_gt {x y : ByteArray} (h : Op.bytesLess x.toList y.toList = false) (h2 : (!(Op.bytesLess x.toList y.toList || x.toList == y.toList)) = true) : cmpT x y = 1 := by
  have h3 : lt y x = true := by
    have : le x y = false := by simpa [le] using h2
    rw [le_not] at this; simpa using this
  unfold cmpT; rw [if_neg (by rw [show lt x y = false from h]; decide), if_pos h3]
theorem cmpT_eq {x y : ByteArray} (h : Op.bytesLess x.toList y.toList = false) (h2 : (!(Op.bytesLess x.toList y.toList || x.toList == y.toList)) = false) : cmpT x y = 0 := by
  have h3 : lt y x = false := by
    have : le x y = true := by unfold le; simpa only [Bool.not_eq_false'] using h2
    rw [le_not] at this; simpa using this
  unfold cmpT; rw [if_neg (by rw [show lt x y = false from h]; decide), if_neg (by rw [h3]; decide)]
end Go.Tan

namespace Go.Tan
open Go.RowKit
def gensKs : List CK := List.replicate 5 (.int .u64)
/-- may an edit's tables be taken as they were laid: so many of them -/
def fitB (m : Meta) : Bool := ((decide (m.size ≥ 0) && decide (m.count ≥ 0)) && decide ((m.min.size : Int) ≤ 1024)) && decide ((m.max.size : Int) ≤ 1024)
def fitA (e : Edit) (k : Nat) : Bool := (e.add.take k).all fitB
theorem fitB_iff {m : Meta} : fitB m = true ↔ m.fits := by
  unfold fitB Meta.fits
  simp only [Bool.and_eq_true, decide_eq_true_eq]
  constructor
  · rintro ⟨⟨⟨h1, h2⟩, h3⟩, h4⟩; exact ⟨h1, h2, by omega, by omega⟩
  · rintro ⟨h1, h2, h3, h4⟩; exact ⟨⟨⟨h1, h2⟩, by omega⟩, by omega⟩
theorem fitA_yes {e : Edit} {k : Nat} (hk : e.add.length ≤ k) (h : fitA e k = true) : ∀ m ∈ e.add, m.fits := by
  unfold fitA at h
  rw [List.take_of_length_le hk] at h
  exact fun m hm => fitB_iff.1 (List.all_eq_true.1 h m hm)
theorem fitA_no {e : Edit} {k : Nat} (hk : e.add.length ≤ k) (h : fitA e k = false) : ∃ m ∈ e.add, ¬ m.fits := by
  unfold fitA at h
  rw [List.take_of_length_le hk] at h
  obtain ⟨m, hm, h2⟩ := List.all_eq_false.1 h
  exact ⟨m, hm, fun hf => h2 (fitB_iff.2 hf)⟩
/-- what comes back of an edit that was laid -/
theorem DecR.back {e x : Edit} {r : Int} {k : Nat} (h : DecR (encE e) x r) (hw : e.wf) (ha : e.add.length ≤ 1024) (hd : e.drop.length ≤ 1024) (hk : e.add.length ≤ k) :
    (fitA e k = true ∧ r = 0 ∧ x = e.canon) ∨ (fitA e k = false ∧ r = 180 ∧ x = Edit.zero) := by
  cases hf : fitA e k with
  | true =>
    have h1 := edit_k hw ha hd (fitA_yes hk hf)
    rcases h with ⟨h2, h3⟩ | ⟨h2, _⟩
    · rw [h1] at h2; exact .inl ⟨rfl, h3, (Option.some.inj h2).symm⟩
    · rw [h1] at h2; cases h2
  | false =>
    have h1 := edit_no hw ha (fitA_no hk hf)
    rcases h with ⟨h2, h3⟩ | ⟨h2, h3, h4⟩
    · rw [h1] at h2; cases h2
    · exact .inr ⟨rfl, h4, h3⟩
end Go.Tan

namespace Go.Tan
open Go.RowKit
abbrev Lvs := Nat → List Meta
def updL (L : Lvs) (k : Nat) (l : List Meta) : Lvs := fun i => if i = k then l else L i
theorem updL_same (L : Lvs) (k : Nat) (l : List Meta) : updL L k l k = l := by simp [updL]
theorem updL_other {L : Lvs} {k i : Nat} {l : List Meta} (h : i ≠ k) : updL L k l i = L i := by simp [updL, h]
def isN (g : Gone) (m : Meta) : Bool := m.number == g.number
/-- one table is taken out -/
def dropF (g : Gone) (L : Lvs) : Option Lvs :=
  if g.level < 5 then (if idxI (isN g) (L g.level.toNat) < 0 then none else some (updL L g.level.toNat ((L g.level.toNat).take (idxI (isN g) (L g.level.toNat)).toNat ++ (L g.level.toNat).drop ((idxI (isN g) (L g.level.toNat)).toNat + 1)))) else none
def addF (m : Meta) (L : Lvs) : Option Lvs := if m.level < 5 then some (updL L m.level.toNat (L m.level.toNat ++ [m])) else none
def insF (m : Meta) (L : Lvs) : Option Lvs := if m.level < 5 then some (updL L m.level.toNat (insS (lvLt m.level) (L m.level.toNat) m)) else none
def foldO {β : Type} (f : β → Lvs → Option Lvs) : List β → Lvs → Option Lvs
  | [], L => some L
  | b :: bs, L => (f b L).bind (foldO f bs)
theorem foldO_snoc {β : Type} {f : β → Lvs → Option Lvs} : ∀ {bs : List β} {b : β} {L : Lvs}, foldO f (bs ++ [b]) L = (foldO f bs L).bind (f b)
  | [], b, L => by simp [foldO]
  | c :: bs, b, L => by
    simp only [List.cons_append, foldO]
    cases f c L with
    | none => rfl
    | some L1 => exact foldO_snoc
theorem foldO_take {β : Type} {f : β → Lvs → Option Lvs} {bs : List β} {k : Nat} {b : β} {L : Lvs} (h : bs[k]? = some b) : foldO f (bs.take (k + 1)) L = (foldO f (bs.take k) L).bind (f b) := by
  rw [List.take_add_one, h]; exact foldO_snoc
theorem foldO_app {β : Type} {f : β → Lvs → Option Lvs} : ∀ {bs cs : List β} {L : Lvs}, foldO f (bs ++ cs) L = (foldO f bs L).bind (foldO f cs)
  | [], cs, L => rfl
  | b :: bs, cs, L => by
    simp only [List.cons_append, foldO]
    cases f b L with
    | none => rfl
    | some L1 => exact foldO_app
/-- one that fails on the way fails all -/
theorem foldO_none {β : Type} {f : β → Lvs → Option Lvs} {bs : List β} {k : Nat} {L : Lvs} (h : foldO f (bs.take k) L = none) : foldO f bs L = none := by
  rw [← List.take_append_drop k bs, foldO_app, h]; rfl
def mkX (e : Edit) (L : Lvs) : State := ⟨L, e.log, e.next, e.seq, e.least, e.gens⟩
noncomputable def chk (X : State) : Option State := if rightS X then some X else none
def okB (s : State) (e : Edit) : Bool := !beforeB s e && (decide ((e.add.length : Int) ≤ 1024) && decide ((e.drop.length : Int) ≤ 1024))
def srtL (L : Lvs) : Lvs := fun i => sortS (lvLt i) (L i)
noncomputable def applyO (s : State) (e : Edit) : Option State :=
  if okB s e then (foldO dropF e.drop s.lv).bind fun L1 => (foldO addF e.add L1).bind fun L2 => chk (mkX e (srtL L2)) else none
structure EqS (X Y : State) : Prop where
  lv : ∀ i, i < 5 → X.lv i = Y.lv i
  log : X.log = Y.log
  next : X.next = Y.next
  seq : X.seq = Y.seq
  least : X.least = Y.least
  gens : X.gens = Y.gens
theorem EqS.refl (X : State) : EqS X X := ⟨fun _ _ => rfl, rfl, rfl, rfl, rfl, rfl⟩
theorem EqS.tot {X Y : State} (h : EqS X Y) : ∀ n, n ≤ 5 → tot X n = tot Y n
  | 0, _ => rfl
  | n + 1, hn => by simp only [Go.Tan.tot, h.tot n (by omega), h.lv n (by omega)]
theorem EqS.all {X Y : State} (h : EqS X Y) : ∀ n, n ≤ 5 → allM X n = allM Y n
  | 0, _ => rfl
  | n + 1, hn => by simp only [allM, h.all n (by omega), h.lv n (by omega)]
theorem EqS.good {X Y : State} (h : EqS X Y) (m : Meta) : Go.Tan.good X m = Go.Tan.good Y m := by unfold Go.Tan.good; rw [h.next, h.gens]
theorem EqS.right' {X Y : State} (h : EqS X Y) (hr : RightP X) : RightP Y := by
  refine ⟨h.seq ▸ hr.seq, h.least ▸ hr.least, by rw [← h.log, ← h.next]; exact hr.log, by rw [← h.tot 5 (Nat.le_refl _)]; exact hr.few, fun i hi => ?_, ?_⟩
  · have := hr.lv i hi
    rw [h.lv i hi] at this
    exact ⟨fun m hm => ⟨(this.1 m hm).1, by rw [← h.good]; exact (this.1 m hm).2⟩, this.2⟩
  · rw [← h.all 5 (Nat.le_refl _)]; exact hr.apart
theorem EqS.symm {X Y : State} (h : EqS X Y) : EqS Y X := ⟨fun i hi => (h.lv i hi).symm, h.log.symm, h.next.symm, h.seq.symm, h.least.symm, h.gens.symm⟩
theorem EqS.right {X Y : State} (h : EqS X Y) : rightS X = rightS Y := by
  cases hx : rightS X with
  | true => exact (rightS_true (h.right' (rightP_of hx))).symm
  | false =>
    cases hy : rightS Y with
    | false => rfl
    | true => have := rightS_true (h.symm.right' (rightP_of hy)); rw [hx] at this; cases this
/-- what an applying comes to -/
def AppR (s : State) (e : Edit) (X : State) (err : Int) : Prop :=
  (rightS s = false ∧ err = 1 ∧ X = State.zero) ∨ (rightS s = true ∧ applyO s e = none ∧ err = 180 ∧ X = State.zero) ∨ (rightS s = true ∧ err = 0 ∧ ∃ Y, applyO s e = some Y ∧ EqS X Y)
theorem ap_not {s : State} {e : Edit} (h : okB s e = false) : applyO s e = none := by unfold applyO; rw [h]; rfl
theorem ap_drop {s : State} {e : Edit} (h : foldO dropF e.drop s.lv = none) : applyO s e = none := by
  unfold applyO; split
  · rw [h]; rfl
  · rfl
theorem ap_add {s : State} {e : Edit} {L1 : Lvs} (h1 : foldO dropF e.drop s.lv = some L1) (h : foldO addF e.add L1 = none) : applyO s e = none := by
  unfold applyO; split
  · rw [h1]; simp only [Option.bind_some]; rw [h]; rfl
  · rfl
theorem ap_end {s : State} {e : Edit} {L1 L2 : Lvs} (h0 : okB s e = true) (h1 : foldO dropF e.drop s.lv = some L1) (h2 : foldO addF e.add L1 = some L2) : applyO s e = chk (mkX e (srtL L2)) := by
  unfold applyO; rw [h0, h1]; simp only [if_true, Option.bind_some]; rw [h2]; rfl
theorem chk_eq {X Y : State} (h : EqS X Y) (hx : rightS X = true) : chk Y = some Y := by unfold chk; rw [← h.right, hx]; rfl
theorem chk_no {X Y : State} (h : EqS X Y) (hx : rightS X = false) : chk Y = none := by unfold chk; rw [← h.right, hx]; rfl
/-! ### Levels: what they have, how long they are -/
theorem idx_lt {p : Meta → Bool} {l : List Meta} (h : ¬ idxI p l < 0) : (idxI p l).toNat < l.length ∧ idxI p l = ((idxI p l).toNat : Int) := by
  unfold idxI at *
  cases hf : l.findIdx? p with
  | none => rw [hf] at h; simp at h
  | some i =>
    rw [List.findIdx?_eq_some_iff_getElem] at hf
    simp; exact hf.1
theorem dropF_sub {g : Gone} {L L' : Lvs} (h : dropF g L = some L') : ∀ i, (L' i).Sublist (L i) := by
  unfold dropF at h
  split at h
  · split at h
    · cases h
    · simp only [Option.some.injEq] at h
      subst h
      intro i
      by_cases hi : i = g.level.toNat
      · subst hi
        rw [updL_same]
        have := (List.Sublist.refl ((L g.level.toNat).take (idxI (isN g) (L g.level.toNat)).toNat)).append (List.drop_sublist_drop_left (L g.level.toNat) (Nat.le_succ (idxI (isN g) (L g.level.toNat)).toNat))
        rwa [List.take_append_drop] at this
      · rw [updL_other hi]; exact List.Sublist.refl _
  · cases h
theorem dropL_sub : ∀ {gs : List Gone} {L L' : Lvs}, foldO dropF gs L = some L' → ∀ i, (L' i).Sublist (L i)
  | [], L, L', h, i => by simp only [foldO, Option.some.injEq] at h; subst h; exact List.Sublist.refl _
  | g :: gs, L, L', h, i => by
    simp only [foldO] at h
    cases hf : dropF g L with
    | none => rw [hf] at h; cases h
    | some L1 => rw [hf] at h; exact (dropL_sub h i).trans (dropF_sub hf i)
def atLv (i : Nat) (m : Meta) : Bool := m.level.toNat == i
theorem addL_eq : ∀ {ms : List Meta} {L L' : Lvs}, foldO addF ms L = some L' → ∀ i, L' i = L i ++ ms.filter (atLv i)
  | [], L, L', h, i => by simp only [foldO, Option.some.injEq] at h; subst h; simp
  | m :: ms, L, L', h, i => by
    simp only [foldO] at h
    unfold addF at h
    split at h
    · simp only [Option.bind_some] at h
      rw [addL_eq h i]
      by_cases hi : i = m.level.toNat
      · subst hi
        rw [updL_same, List.filter_cons_of_pos (by simp [atLv])]; simp
      · rw [updL_other hi, List.filter_cons_of_neg (by simp [atLv]; omega)]
    · cases h
/-- how long levels are, and what is in them -/
theorem dropL_len {s : State} {gs : List Gone} {L : Lvs} (hr : RightP s) (h : foldO dropF gs s.lv = some L) {i : Nat} (hi : i < 5) : (L i).length ≤ 1024 := by
  have h1 := (dropL_sub h i).length_le
  have h2 := lv_tot s hi
  have h3 := hr.few
  omega
theorem addL_len {ms : List Meta} {L L' : Lvs} {N : Nat} (h : foldO addF ms L = some L') {i : Nat} (hN : (L i).length ≤ N) : (L' i).length ≤ N + ms.length := by
  rw [addL_eq h i, List.length_append]
  have := List.length_filter_le (atLv i) ms
  omega
theorem dropL_wf {s : State} {gs : List Gone} {L : Lvs} (hw : ∀ i, i < 5 → ∀ m ∈ s.lv i, m.wf) (h : foldO dropF gs s.lv = some L) : ∀ i, i < 5 → ∀ m ∈ L i, m.wf := fun i hi m hm => hw i hi m ((dropL_sub h i).subset hm)
theorem addL_wf {ms : List Meta} {L L' : Lvs} (hw : ∀ i, i < 5 → ∀ m ∈ L i, m.wf) (hm : ∀ m ∈ ms, m.wf) (h : foldO addF ms L = some L') : ∀ i, i < 5 → ∀ m ∈ L' i, m.wf := by
  intro i hi m hx
  rw [addL_eq h i] at hx
  rcases List.mem_append.1 hx with hx | hx
  · exact hw i hi m hx
  · exact hm m (List.mem_filter.1 hx).1
theorem srtL_len (L : Lvs) (i : Nat) : (srtL L i).length = (L i).length := sortS_len _
theorem srtL_mem {L : Lvs} {i : Nat} {m : Meta} : m ∈ srtL L i ↔ m ∈ L i := (sortS_perm _).mem_iff
/-! ### The steps -/
def xC (w0 w1 w2 w3 w4 : Value) (e : Edit) : List Value := [w0, w1, w2, w3, w4, .int .u64 e.log, .int .u64 e.next, .int .u64 e.seq, .int .u64 e.least] ++ (List.range 5).map fun i => .int .u64 (e.gens i)
def pk {α : Type} (k i : Nat) (a b : α) : α := if i < k then a else b
def hx5 (a b c d f : Sh) : Nat → Sh := fun i => match i with | 0 => a | 1 => b | 2 => c | 3 => d | _ => f
theorem stR5 {G : PM} {X : State} {a b c d f : Sh} (h0 : SlR G 40 Meta.cells a (X.lv 0)) (h1 : SlR G 40 Meta.cells b (X.lv 1)) (h2 : SlR G 40 Meta.cells c (X.lv 2)) (h3 : SlR G 40 Meta.cells d (X.lv 3)) (h4 : SlR G 40 Meta.cells f (X.lv 4)) (hl : ∀ i, i < 5 → (X.lv i).length ≤ 1000000) (hw : ∀ i, i < 5 → ∀ m ∈ X.lv i, m.wf) : StR G X (hx5 a b c d f) := by
  refine ⟨fun i hi => ?_, fun i hi => ?_, hw⟩
  · match i, hi with
    | 0, _ => exact h0
    | 1, _ => exact h1
    | 2, _ => exact h2
    | 3, _ => exact h3
    | 4, _ => exact h4
  · have := hl i hi; omega
theorem xC_cells {a b c d f : Sh} {e : Edit} {L : Lvs} : xC (a.val (L 0).length) (b.val (L 1).length) (c.val (L 2).length) (d.val (L 3).length) (f.val (L 4).length) e = (mkX e L).cells (hx5 a b c d f) := rfl
theorem xC_one {w0 w1 w2 w3 w4 : Value} {e : Edit} (h0 : w0.oneCell' = true) (h1 : w1.oneCell' = true) (h2 : w2.oneCell' = true) (h3 : w3.oneCell' = true) (h4 : w4.oneCell' = true) : ∀ u ∈ xC w0 w1 w2 w3 w4 e, u.oneCell' = true := by
  intro u hu
  simp only [xC, List.mem_append, List.mem_map, List.mem_cons, List.not_mem_nil, or_false] at hu
  rcases hu with (rfl | rfl | rfl | rfl | rfl | rfl | rfl | rfl | rfl) | ⟨i, _, rfl⟩ <;> first | assumption | rfl
theorem dropF_hit {g : Gone} {L : Lvs} {q k : Nat} (h : g.level = (q : Int)) (h5 : q < 5) (hk : idxI (isN g) (L q) = (k : Int)) : dropF g L = some (updL L q ((L q).take k ++ (L q).drop (k + 1))) := by
  unfold dropF
  rw [h, if_pos (by omega), Int.toNat_natCast, hk, if_neg (by omega), Int.toNat_natCast]
theorem dropF_miss {g : Gone} {L : Lvs} {q : Nat} (h : g.level = (q : Int)) (hk : idxI (isN g) (L q) < 0) : dropF g L = none := by
  unfold dropF
  split
  · rw [h, Int.toNat_natCast, if_pos hk]
  · rfl
theorem dropF_high {g : Gone} {L : Lvs} (h : 5 ≤ g.level) : dropF g L = none := by unfold dropF; rw [if_neg (by omega)]
theorem addF_hit {m : Meta} {L : Lvs} {q : Nat} (h : m.level = (q : Int)) (h5 : q < 5) : addF m L = some (updL L q (L q ++ [m])) := by
  unfold addF
  rw [h, if_pos (by omega), Int.toNat_natCast]
theorem addF_high {m : Meta} {L : Lvs} (h : 5 ≤ m.level) : addF m L = none := by unfold addF; rw [if_neg (by omega)]
theorem fold_step {β : Type} {f : β → Lvs → Option Lvs} {bs : List β} {j : Nat} {b : β} {L0 L L' : Lvs} (hb : bs[j]? = some b) (hL : foldO f (bs.take j) L0 = some L) (h : f b L = some L') : foldO f (bs.take (j + 1)) L0 = some L' := by rw [foldO_take hb, hL]; exact h
theorem fold_stop {β : Type} {f : β → Lvs → Option Lvs} {bs : List β} {j : Nat} {b : β} {L0 L : Lvs} (hb : bs[j]? = some b) (hL : foldO f (bs.take j) L0 = some L) (h : f b L = none) : foldO f bs L0 = none := foldO_none (k := j + 1) (by rw [foldO_take hb, hL]; exact h)
theorem srt_step5 {M L2 : Lvs} {k : Nat} (h : ∀ i, M i = if i < k then srtL L2 i else L2 i) : ∀ i, updL M k (sortS (ltv (lvC (k : Int))) (M k)) i = if i < k + 1 then srtL L2 i else L2 i := by
  intro i
  by_cases hi : i = k
  · subst hi
    rw [updL_same, if_pos (by omega), ltv_lvC, h i, if_neg (by omega)]; rfl
  · rw [updL_other hi, h i]
    by_cases h2 : i < k
    · rw [if_pos h2, if_pos (by omega)]
    · rw [if_neg h2, if_neg (by omega)]
theorem ap_head {s : State} {e : Edit} (h : ((decide ((e.add.length : Int) > 1024) || decide ((e.drop.length : Int) > 1024)) || beforeB s e) = true) : applyO s e = none := by
  refine ap_not ?_
  unfold okB
  cases hb : beforeB s e with
  | true => rfl
  | false =>
    rw [hb] at h
    simp only [Bool.or_false, Bool.or_eq_true, decide_eq_true_eq] at h
    simp only [Bool.not_false, Bool.true_and, Bool.and_eq_false_iff, decide_eq_false_iff_not]
    omega
theorem ok_head {s : State} {e : Edit} (h : ((decide ((e.add.length : Int) > 1024) || decide ((e.drop.length : Int) > 1024)) || beforeB s e) = false) : okB s e = true ∧ e.add.length ≤ 1024 ∧ e.drop.length ≤ 1024 := by
  simp only [Bool.or_eq_false_iff, decide_eq_false_iff_not] at h
  obtain ⟨⟨h1, h2⟩, h3⟩ := h
  refine ⟨?_, by omega, by omega⟩
  unfold okB
  rw [h3, decide_eq_true (by omega), decide_eq_true (by omega)]; rfl
end Go.Tan

namespace Go.Tan
open Go.RowKit
abbrev Shs := Nat → Sh
def updS (S : Shs) (k : Nat) (h : Sh) : Shs := fun i => if i = k then h else S i
structure LvR (G : PM) (S : Shs) (L : Lvs) (n : Nat) : Prop where
  lv : ∀ i, i < n → SlR G 40 Meta.cells (S i) (L i)
theorem LvR.mono {G G' : PM} {S : Shs} {L : Lvs} {n : Nat} (h : LvR G S L n) (hle : PM.le G G') : LvR G' S L n := ⟨fun i hi => (h.lv i hi).mono hle⟩
theorem LvR.upd {G : PM} {S : Shs} {L : Lvs} {n k : Nat} {hh : Sh} {l : List Meta} (h : LvR G S L n) (hs : SlR G 40 Meta.cells hh l) : LvR G (updS S k hh) (updL L k l) n := ⟨fun i hi => by
  unfold updS updL
  by_cases e : i = k
  · rw [if_pos e, if_pos e]; exact hs
  · rw [if_neg e, if_neg e]; exact h.lv i hi⟩
theorem LvR.next {G : PM} {S : Shs} {L : Lvs} {k : Nat} {hh : Sh} {l : List Meta} (h : LvR G S L k) (hs : SlR G 40 Meta.cells hh l) : LvR G (updS S k hh) (updL L k l) (k + 1) := ⟨fun i hi => by
  unfold updS updL
  by_cases e : i = k
  · rw [if_pos e, if_pos e]; exact hs
  · rw [if_neg e, if_neg e]; exact h.lv i (by omega)⟩
theorem LvR.congr {G : PM} {S : Shs} {L L' : Lvs} {n : Nat} (h : LvR G S L n) (e : ∀ i, i < n → L i = L' i) : LvR G S L' n := ⟨fun i hi => by rw [← e i hi]; exact h.lv i hi⟩
theorem Edit.cell_gen (e : Edit) (ha hd : Sh) {k : Nat} (h : k < 5) : (e.cells ha hd)[4 + k * 1]? = some (.int .u64 (e.gens k)) := by
  match k, h with
  | 0, _ => rfl | 1, _ => rfl | 2, _ => rfl | 3, _ => rfl | 4, _ => rfl
def okBase (s : State) (e : Edit) : Bool := ((((decide (e.log ≥ s.log) && decide (e.next ≥ s.next)) && decide (e.seq ≥ s.seq)) && decide (e.least ≥ s.least)) && decide ((e.add.length : Int) ≤ 1024)) && decide ((e.drop.length : Int) ≤ 1024)
def okU (s : State) (e : Edit) : Nat → Bool
  | 0 => okBase s e
  | k + 1 => okU s e k && decide (e.gens k ≥ s.gens k)
theorem okU_all {s : State} {e : Edit} : ∀ {k : Nat}, okU s e k = true ↔ okBase s e = true ∧ ∀ i, i < k → ¬ e.gens i < s.gens i
  | 0 => by simp [okU]
  | k + 1 => by
    simp only [okU, Bool.and_eq_true, okU_all (k := k), decide_eq_true_eq]
    constructor
    · rintro ⟨⟨h1, h2⟩, h3⟩
      exact ⟨h1, fun i hi => by
        by_cases e : i = k
        · subst e; omega
        · exact h2 i (by omega)⟩
    · rintro ⟨h1, h2⟩
      exact ⟨⟨h1, fun i hi => h2 i (by omega)⟩, by have := h2 k (by omega); omega⟩
theorem okU_okB {s : State} {e : Edit} : okU s e 5 = okB s e := by
  cases h : okU s e 5 with
  | true =>
    obtain ⟨h1, h2⟩ := okU_all.1 h
    unfold okBase at h1
    simp only [Bool.and_eq_true, decide_eq_true_eq] at h1
    obtain ⟨⟨⟨⟨⟨a1, a2⟩, a3⟩, a4⟩, a5⟩, a6⟩ := h1
    unfold okB
    rw [bef_no h2, decide_eq_true a5, decide_eq_true a6, decide_eq_false (by omega), decide_eq_false (by omega), decide_eq_false (by omega), decide_eq_false (by omega)]; rfl
  | false =>
    cases h' : okB s e with
    | false => rfl
    | true =>
      unfold okB at h'
      simp only [Bool.and_eq_true, Bool.not_eq_true', decide_eq_true_eq] at h'
      obtain ⟨b1, b2, b3⟩ := h'
      have hg : ∀ i, i < 5 → ¬ e.gens i < s.gens i := fun i hi hc => by rw [bef_yes hi hc] at b1; cases b1
      rw [bef_no hg] at b1
      simp only [Bool.or_eq_false_iff, decide_eq_false_iff_not] at b1
      have : okU s e 5 = true := okU_all.2 ⟨by
        unfold okBase
        simp only [Bool.and_eq_true, decide_eq_true_eq]
        omega, hg⟩
      rw [h] at this; cases this
theorem insF_hit {m : Meta} {L : Lvs} (h : m.level < 5) : insF m L = some (updL L m.level.toNat (insS (lvLt m.level) (L m.level.toNat) m)) := by unfold insF; rw [if_pos h]
theorem dropF_ok {g : Gone} {L : Lvs} {k : Nat} (h : g.level < 5) (hk : idxI (isN g) (L g.level.toNat) = (k : Int)) : dropF g L = some (updL L g.level.toNat ((L g.level.toNat).take k ++ (L g.level.toNat).drop (k + 1))) := by
  unfold dropF
  rw [if_pos h, hk, if_neg (by omega), Int.toNat_natCast]
theorem dropF_non {g : Gone} {L : Lvs} (hk : idxI (isN g) (L g.level.toNat) < 0) : dropF g L = none := by
  unfold dropF
  split <;> first | rfl | rw [if_pos hk]
/-- what is left of a list without one -/
def WithoutR (g : Gone) (l L : List Meta) (ok : Bool) : Prop := (ok = false ∧ L = [] ∧ idxI (isN g) l < 0) ∨ (ok = true ∧ ∃ k : Nat, idxI (isN g) l = (k : Int) ∧ k < l.length ∧ L = l.take k ++ l.drop (k + 1))
theorem WithoutR.len {g : Gone} {l L : List Meta} {ok : Bool} (h : WithoutR g l L ok) : L.length ≤ l.length := by
  rcases h with ⟨_, rfl, _⟩ | ⟨_, k, _, hk, rfl⟩
  · simp
  · simp; omega
/-- the way of the document, up to so many -/
def RefT (s : State) (e : Edit) (f : Option Lvs) (L : Lvs) (ok : Bool) : Prop := (ok = true ∧ okB s e = true ∧ f = some L) ∨ (ok = false ∧ applyO s e = none)
theorem RefT.start {s : State} {e : Edit} {ok : Bool} {f : Option Lvs} {L : Lvs} (h : ok = okU s e 5) (hf : f = some L) : RefT s e f L ok := by
  rw [okU_okB] at h
  cases hk : okB s e with
  | true => exact .inl ⟨by rw [h, hk], hk, hf⟩
  | false => exact .inr ⟨by rw [h, hk], ap_not hk⟩
theorem RefT.drop {s : State} {e : Edit} {g : Gone} {j : Nat} {L : Lvs} {l : List Meta} {ok : Bool} (h : RefT s e (foldO dropF (e.drop.take j) s.lv) L true) (eg : e.drop[j]? = some g) (h5 : g.level < 5) (hw : WithoutR g (L g.level.toNat) l ok) : RefT s e (foldO dropF (e.drop.take (j + 1)) s.lv) (updL L g.level.toNat l) ok := by
  rcases h with ⟨_, h1, h2⟩ | ⟨h, _⟩
  · rcases hw with ⟨rfl, _, hn⟩ | ⟨rfl, k, hk, _, rfl⟩
    · exact .inr ⟨rfl, ap_drop (fold_stop eg h2 (dropF_non hn))⟩
    · exact .inl ⟨rfl, h1, fold_step eg h2 (dropF_ok h5 hk)⟩
  · cases h
structure RefA (s : State) (e : Edit) (j : Nat) (L : Lvs) (ok : Bool) : Prop where
  out : (ok = true ∧ okB s e = true ∧ ∃ L1, foldO dropF e.drop s.lv = some L1 ∧ foldO insF (e.add.take j) L1 = some L) ∨ (ok = false ∧ applyO s e = none)
theorem RefA.start {s : State} {e : Edit} {L : Lvs} {ok : Bool} (h : RefT s e (foldO dropF e.drop s.lv) L ok) : RefA s e 0 L ok := by
  rcases h with ⟨rfl, h1, h2⟩ | ⟨rfl, h⟩
  · exact ⟨.inl ⟨rfl, h1, L, h2, rfl⟩⟩
  · exact ⟨.inr ⟨rfl, h⟩⟩
theorem RefA.add {s : State} {e : Edit} {m : Meta} {j : Nat} {L : Lvs} (h : RefA s e j L true) (em : e.add[j]? = some m) (h5 : m.level < 5) : RefA s e (j + 1) (updL L m.level.toNat (insS (lvLt m.level) (L m.level.toNat) m)) true := by
  rcases h.out with ⟨_, h1, L1, h2, h3⟩ | ⟨h, _⟩
  · exact ⟨.inl ⟨rfl, h1, L1, h2, fold_step em h3 (insF_hit h5)⟩⟩
  · cases h
theorem RefA.no {s : State} {e : Edit} {j : Nat} {L : Lvs} (h : RefA s e j L false) : applyO s e = none := by
  rcases h.out with ⟨h, _⟩ | ⟨_, h⟩
  · cases h
  · exact h
/-! ### States that are the same -/
noncomputable def eqGenS (a b : State) : Bool := B (((List.range 5).map fun i => Value.int .u64 (a.gens i)) = (List.range 5).map fun i => Value.int .u64 (b.gens i))
theorem eqGenS_iff {a b : State} : eqGenS a b = true ↔ ((List.range 5).map fun i => Value.int .u64 (a.gens i)) = (List.range 5).map fun i => Value.int .u64 (b.gens i) := B_iff
/-- both states are the same (the document's test) -/
noncomputable def sameS (a b : State) : Bool := B (∀ i, i < 5 → sameM (a.lv i) (b.lv i) = true) && ((((a.log == b.log) && (a.next == b.next)) && (a.seq == b.seq)) && eqGenS a b)
theorem sameS_no {a b : State} {i : Nat} (hi : i < 5) (h : sameM (a.lv i) (b.lv i) = false) : sameS a b = false := by
  unfold sameS
  rw [show B (∀ i, i < 5 → sameM (a.lv i) (b.lv i) = true) = false from B_false fun hc => by have := hc i hi; rw [h] at this; cases this]; rfl
theorem sameS_yes {a b : State} (h : ∀ i, i < 5 → sameM (a.lv i) (b.lv i) = true) : sameS a b = ((((a.log == b.log) && (a.next == b.next)) && (a.seq == b.seq)) && eqGenS a b) := by
  unfold sameS
  rw [show B (∀ i, i < 5 → sameM (a.lv i) (b.lv i) = true) = true from B_true h]; rfl
theorem sameS_of {a b : State} (h : EqS a b) : sameS a b = true := by
  rw [sameS_yes fun i hi => by rw [h.lv i hi]; exact sameM_refl _, h.log, h.next, h.seq, show eqGenS a b = true from B_true (by rw [h.gens])]
  simp
theorem EqS.trans {X Y Z : State} (h : EqS X Y) (h' : EqS Y Z) : EqS X Z := ⟨fun i hi => (h.lv i hi).trans (h'.lv i hi), h.log.trans h'.log, h.next.trans h'.next, h.seq.trans h'.seq, h.least.trans h'.least, h.gens.trans h'.gens⟩
def StW (s : State) : Prop := (u64 s.log ∧ u64 s.next ∧ u64 s.seq ∧ u64 s.least) ∧ ∀ i, i < 5 → u64 (s.gens i)
theorem gensS_conf {s : State} (h : ∀ i, i < 5 → u64 (s.gens i)) : Conf gensKs ((List.range 5).map fun i => Value.int .u64 (s.gens i)) := by
  have := Conf.rep (k := .int .u64) (f := fun i => Value.int .u64 (s.gens i)) (List.range 5) (fun i hi => by
    have hr := h i (List.mem_range.1 hi)
    unfold u64 at hr
    refine .int ?_ ?_
    all_goals (simp only [IntKind.min, IntKind.max, IntKind.bits, IntKind.signed]; simp; omega))
  rw [List.length_range] at this
  exact this
theorem StW.zero : ∀ i, i < 5 → u64 (State.zero.gens i) := fun _ _ => ⟨show (0 : Int) ≤ 0 by decide, show (0 : Int) < 18446744073709551616 by decide⟩
theorem AppR.gens {s : State} {e : Edit} {X : State} {r : Int} (h : AppR s e X r) (hw : e.wf) : ∀ i, i < 5 → u64 (X.gens i) := by
  rcases h with ⟨_, _, rfl⟩ | ⟨_, _, _, rfl⟩ | ⟨_, _, Y, h1, h2⟩
  · exact StW.zero
  · exact StW.zero
  · rw [h2.gens]
    unfold applyO at h1
    split at h1
    · cases hd : foldO dropF e.drop s.lv with
      | none => rw [hd] at h1; cases h1
      | some L1 =>
        rw [hd] at h1
        simp only [Option.bind_some] at h1
        cases ha : foldO addF e.add L1 with
        | none => rw [ha] at h1; cases h1
        | some L2 =>
          rw [ha] at h1
          simp only [Option.bind_some] at h1
          unfold chk at h1
          split at h1
          · cases h1; exact hw.gens
          · cases h1
    · cases h1
theorem applyO_inv {s : State} {e : Edit} {Y : State} (h : applyO s e = some Y) : okB s e = true ∧ rightS Y = true ∧ ∃ L1 L2, foldO dropF e.drop s.lv = some L1 ∧ foldO addF e.add L1 = some L2 ∧ Y = mkX e (srtL L2) := by
  unfold applyO at h
  split at h
  · rename_i hk
    cases hd : foldO dropF e.drop s.lv with
    | none => rw [hd] at h; cases h
    | some L1 =>
      rw [hd] at h
      simp only [Option.bind_some] at h
      cases ha : foldO addF e.add L1 with
      | none => rw [ha] at h; cases h
      | some L2 =>
        rw [ha] at h
        simp only [Option.bind_some] at h
        unfold chk at h
        split at h
        · rename_i hr
          cases h
          exact ⟨hk, hr, L1, L2, rfl, ha, rfl⟩
        · cases h
  · cases h
theorem AppR.len {s : State} {e : Edit} {X : State} {r : Int} (h : AppR s e X r) {i : Nat} (hi : i < 5) : (X.lv i).length ≤ 1024 := by
  rcases h with ⟨_, _, rfl⟩ | ⟨_, _, _, rfl⟩ | ⟨_, _, Y, h1, h2⟩
  · exact Nat.zero_le _
  · exact Nat.zero_le _
  · rw [h2.lv i hi]
    have h3 := (rightP_of (applyO_inv h1).2.1).few
    have h4 := lv_tot Y hi
    omega
end Go.Tan
