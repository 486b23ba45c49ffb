/- Contracts of functions, walked. -/
import Derived.Test.YtoogjfldgeiapaaDoorWalT
namespace Go.Proofs.YtoogjfldgeiapaaDoor
set_option linter.unusedSimpArgs false
set_option linter.unusedVariables false
open Go.Tan Go.RowKit

namespace Fx
theorem bp123_0 : bPl Tryd.prog 123 [0] = some ([.slice none 0 0, .int .i64 0], [(0, 1)]) := by kernel_rfl
theorem pt101 : ptT Tryd.prog 101 = true := by kernel_rfl
theorem fo123_1 : fOff Tryd.prog 123 1 = some 1 := by kernel_rfl
theorem ag35 : aggN Tryd.prog 35 = some none := by kernel_rfl
theorem fo123_0 : fOff Tryd.prog 123 0 = some 0 := by kernel_rfl
theorem cv5_43 : cvK Tryd.prog 5 43 = some .u64 := by kernel_rfl
end Fx
theorem cNew_ok (xs : List Y) (h : Sh) (G : PM) (hs : SlR G 1 encY h xs) (hl : xs.length ≤ 100000000000000) : Ct Tryd.prog 66 ([h.val xs.length] : List Value).toArray G [] (fun G' μ' u => ∃ b s, μ' = [.blk b (cl [Sh.val s xs.length, .int .i64 0] 123)] ∧ u = .pointer (some ⟨b, 0, none⟩) ∧ SlR G' 1 encY s xs) := by
  refine Ct.of Tryd.func66 rfl Tryd.ntmps66 rfl fun w0 hs0 => ?_
  refine .seq ?_
  refine Wk.rg [0] rfl rfl ?_
  refine asg rfl .no (.u rfl) ?_
  refine .nil ?_
  refine .code ?_
  refine .seq ?_
  refine Wk.rg [0, 1, 2, 3, 4, 5] rfl rfl ?_
  refine b0B rfl Fx.se27 ?_; intro b3
  refine mv rfl .no (.u rfl) ?_
  refine apY0 rfl Fx.se27 Fx.zv5 (.u rfl) (.u rfl) .here hs.sc (by (try simp only [List.length_append, List.length_cons, List.length_nil, yl_len]); omega) ?_
  intro v5 L5 _ ov5 eL5
  have lL5 : L5.length = xs.length := by rw [eL5]
  refine bCe ([v5, .int .i64 0]) rfl .no Fx.bp123_0 (.cons (.u rfl) (cells_one ov5) .nil) rfl (rfl) ?_
  refine bx rfl (.u rfl) rfl ?_; intro b7
  refine asg rfl .no (.u rfl) ?_
  refine .nil ?_
  refine .code ?_
  refine .ret ?_
  refine we_fb (.there .here) (by first | (intro b hb; cases hb; done) | simp [keys, Res.keys]) ?_; intro GfR5 hR5 hleR5 evR5 hsR5; subst evR5
  have hs := hs.mono hleR5
  refine We.fin Tryd.results66 (.tmp rfl .nil) (MSub.cons .here rfl MSub.nil) ?_
  subst eL5
  exact ⟨b7, hR5, rfl, rfl, hsR5⟩

theorem rdFix_ok (xs : List Y) (s : Sh) (b : Nat) (G : PM) (hs : SlR G 1 encY s xs) (h8 : 8 ≤ xs.length) (hl : xs.length ≤ 100000000000000) : Ct Tryd.prog 67 ([.pointer (some ⟨b, 0, none⟩), .int .i64 ((8 : Nat) : Int)] : List Value).toArray G [.blk b (cl [s.val xs.length, .int .i64 0] 123)] (fun G' μ' u => ∃ s', μ' = [.blk b (cl [Sh.val s' (xs.drop 8).length, .int .i64 0] 123)] ∧ u = uv .u64 (unfK xs 8) ∧ SlR G' 1 encY s' (xs.drop 8)) := by
  refine Ct.of Tryd.func67 rfl Tryd.ntmps67 rfl fun w0 hs0 => ?_
  refine .seq ?_
  refine Wk.rg [0] rfl rfl ?_
  refine asg rfl .no (.u rfl) ?_
  refine .nil ?_
  refine .code ?_
  refine .seq ?_
  refine .seq ?_
  refine Wk.rg [0, 1, 2, 3, 4, 5, 6, 7, 8] rfl rfl ?_
  refine mv rfl .no (.u rfl) ?_
  refine pe rfl .no Fx.pt101 (.u rfl) (.u rfl) ?_
  refine mv rfl .no (.u rfl) ?_
  refine mv rfl (Gd.f (b := false) rfl rfl) (.u rfl) ?_
  refine nc rfl (Gd.f (b := false) rfl rfl) (.u rfl) ?_
  refine fz rfl (Gd.f (b := false) rfl rfl) Fx.fo123_1 (.u rfl) ?_
  refine ld rfl (Gd.f (b := false) rfl rfl) Fx.ag35 (.u rfl) (fun _ => Rd.own .here (by first | exact wap_f rfl | rfl)) ?_
  refine cp rfl (Gd.f (b := false) rfl rfl) (.u rfl) (.u rfl) rfl ?_
  refine pkO rfl .no (.u rfl) (.u rfl) ?_
  refine .nil ?_
  refine .code ?_
  refine .cond rfl (fun c1 => ?_) (fun c1 => ?_)
  · have c1k := c1
    exact absurd c1 (by decide)
  · have c1k := c1
    try simp only [decide_eq_true_eq, decide_eq_false_iff_not, Int.not_lt, Int.not_le, gt_iff_lt, ge_iff_le, Bool.or_eq_true, Bool.and_eq_true, Bool.or_eq_false_iff, Bool.not_eq_true', Bool.not_eq_false', Int.toNat_natCast, bne_iff_ne, beq_iff_eq, bne_eq_false_iff_eq, beq_eq_false_iff_ne, ne_eq] at c1
    refine .skip ?_
    refine .code ?_
    refine .seq ?_
    refine .seq ?_
    refine Wk.rg [0, 1, 2, 3, 4, 5] rfl rfl ?_
    refine mv rfl .no (.u rfl) ?_
    refine cp rfl .no (.u rfl) (.u rfl) rfl ?_
    refine mv rfl .no (.u rfl) ?_
    refine mv rfl (.f rfl rfl) (.u rfl) ?_
    refine cp rfl (.f rfl rfl) (.s rfl) (.u rfl) rfl ?_
    refine pkO rfl .no (.u rfl) (.s rfl) ?_
    refine .nil ?_
    refine .code ?_
    refine .cond rfl (fun c2 => ?_) (fun c2 => ?_)
    · have c2k := c2
      exact absurd c2 (by decide)
    · have c2k := c2
      try simp only [decide_eq_true_eq, decide_eq_false_iff_not, Int.not_lt, Int.not_le, gt_iff_lt, ge_iff_le, Bool.or_eq_true, Bool.and_eq_true, Bool.or_eq_false_iff, Bool.not_eq_true', Bool.not_eq_false', Int.toNat_natCast, bne_iff_ne, beq_iff_eq, bne_eq_false_iff_eq, beq_eq_false_iff_ne, ne_eq] at c2
      refine .skip ?_
      refine .code ?_
      refine .seq ?_
      refine .seq ?_
      refine Wk.rg [0, 1, 2, 3, 4, 5, 6] rfl rfl ?_
      refine mv rfl .no (.u rfl) ?_
      refine mv rfl .no (.u rfl) ?_
      refine nc rfl .no (.u rfl) ?_
      refine fz rfl .no Fx.fo123_0 (.u rfl) ?_
      refine ld rfl .no Fx.ag27 (.u rfl) (fun _ => Rd.own .here (by first | exact wap_f rfl | rfl)) ?_
      refine ln rfl .no Fx.sn27 (.u rfl) ?_
      refine cp rfl .no (.u rfl) (.u rfl) rfl ?_
      refine .nil ?_
      refine .code ?_
      refine .cond rfl (fun c3 => ?_) (fun c3 => ?_)
      · have c3k := c3
        try simp only [decide_eq_true_eq, decide_eq_false_iff_not, Int.not_lt, Int.not_le, gt_iff_lt, ge_iff_le, Bool.or_eq_true, Bool.and_eq_true, Bool.or_eq_false_iff, Bool.not_eq_true', Bool.not_eq_false', Int.toNat_natCast, bne_iff_ne, beq_iff_eq, bne_eq_false_iff_eq, beq_eq_false_iff_ne, ne_eq] at c3
        exfalso; omega
      · have c3k := c3
        try simp only [decide_eq_true_eq, decide_eq_false_iff_not, Int.not_lt, Int.not_le, gt_iff_lt, ge_iff_le, Bool.or_eq_true, Bool.and_eq_true, Bool.or_eq_false_iff, Bool.not_eq_true', Bool.not_eq_false', Int.toNat_natCast, bne_iff_ne, beq_iff_eq, bne_eq_false_iff_eq, beq_eq_false_iff_ne, ne_eq] at c3
        refine .skip ?_
        refine .code ?_
        refine .seq ?_
        refine Wk.rg [0] rfl rfl ?_
        refine asg rfl .no (.u rfl) ?_
        refine .nil ?_
        refine .code ?_
        refine .seq ?_
        refine .seq ?_
        refine Wk.rg [0, 1] rfl rfl ?_
        refine mv rfl .no (.u rfl) ?_
        refine mv rfl .no (.u rfl) ?_
        refine .nil ?_
        refine .code ?_
        refine .block ?_
        refine Wk.lop (α := Nat × BitVec 64) (fun gh => [(5, true, uv .u64 gh.2), (36, true, .int .i64 (gh.1 : Int))]) (fun _ => [])
          (fun gh Gl => (gh.1 ≤ 8) ∧ (gh.2 = unfK xs gh.1)) (fun gh => 8 - gh.1) (0, 0#64) [(0, true, _), (1, true, _), (35, true, _)] [_]
          (ESub.cons rfl rfl (ESub.cons rfl (by first | rfl | exact evi (by omega)) (ESub.cons rfl rfl (ESub.cons rfl rfl (ESub.cons rfl rfl ESub.nil)))))
          (MSub.cons .here rfl MSub.nil) ?_ ?_
        · refine ⟨?_, ?_⟩
          · (try dsimp only) <;> (first | omega | rfl | assumption | (simp; done))
          · (try dsimp only) <;> (rfl)
        intro gh N0 Gl0 hN0 hGl0 hF0
        obtain ⟨k, m⟩ := gh; dsimp only at hF0 hN0 ⊢
        obtain ⟨hk, em⟩ := hF0
        have hs := hs.mono hGl0
        refine .seq ?_
        refine Wk.rg [0] rfl rfl ?_
        refine cp rfl .no (.u rfl) (.u rfl) rfl ?_
        refine .nil ?_
        refine .code ?_
        refine .seq ?_
        refine .cond rfl (fun c4 => ?_) (fun c4 => ?_)
        · have c4k := c4
          try simp only [decide_eq_true_eq, decide_eq_false_iff_not, Int.not_lt, Int.not_le, gt_iff_lt, ge_iff_le, Bool.or_eq_true, Bool.and_eq_true, Bool.or_eq_false_iff, Bool.not_eq_true', Bool.not_eq_false', Int.toNat_natCast, bne_iff_ne, beq_iff_eq, bne_eq_false_iff_eq, beq_eq_false_iff_ne, ne_eq] at c4
          refine .skip ?_
          refine .code ?_
          refine .seq ?_
          refine .block ?_
          refine .seq ?_
          refine Wk.rg [0, 1] rfl rfl ?_
          refine mv rfl .no (.u rfl) ?_
          refine asg rfl .no (.u rfl) ?_
          refine .nil ?_
          refine .code ?_
          refine Wk.rg [0, 1, 2, 3, 4, 5, 6, 7, 8, 9, 10, 11, 12, 13] rfl rfl ?_
          refine mv rfl .no (.u rfl) ?_
          refine mv rfl .no (.u rfl) ?_
          refine nc rfl .no (.u rfl) ?_
          refine fz rfl .no Fx.fo123_0 (.u rfl) ?_
          refine ld rfl .no Fx.ag27 (.u rfl) (fun _ => Rd.own .here (by first | exact wap_f rfl | rfl)) ?_
          refine mv rfl .no (.u rfl) ?_
          refine ih rfl .no Fx.se27 (.u rfl) (.u rfl) (fun _ => by omega) (fun _ => by omega) (fun _ => hs.nn (k := k) (by omega)) ?_
          refine ld rfl .no Fx.ag5 (.u rfl) (fun _ => (hs.yat (k) (by omega) (by omega)).rd) ?_
          refine cu (k := .u8) rfl .no rfl Fx.cv5_43 (.u rfl) ?_
          refine mv rfl .no (.u rfl) ?_
          refine arn (((8 * k) : Nat) : Int) rfl .no (.u rfl) (.u rfl) rfl (fun _ => by omega) (fun _ => wrap_i64 (by omega) (by omega)) ?_
          refine lw (k := .u64) rfl .no rfl (.u rfl) (.u rfl) (fun _ => by omega) ?_
          refine bw (k := .u64) rfl .no rfl (.u rfl) (.u rfl) rfl ?_
          refine asg rfl .no (.u rfl) ?_
          refine .nil ?_
          refine .blk ?_
          refine .code ?_
          refine Wk.rg [0, 1] rfl rfl ?_
          refine arn (((k + 1) : Nat) : Int) rfl .no (.u rfl) (.u rfl) rfl (fun _ => by omega) (fun _ => wrap_i64 (by omega) (by omega)) ?_
          refine mv rfl .no (.u rfl) ?_
          refine .nil ?_
          refine We.lpo (k + 1, m ||| (xs.getD k 0).setWidth 64 <<< (8 * k)) ?_ ?_ ?_ ?_ ?_
          · exact (ESub.cons rfl rfl (ESub.cons rfl (by first | rfl | exact evi (by omega)) (ESub.cons rfl rfl (ESub.cons rfl rfl (ESub.cons rfl rfl ESub.nil)))))
          · exact (MSub.cons .here rfl MSub.nil)
          · first | omega | (dsimp only; omega)
          · exact hGl0
          · refine ⟨?_, ?_⟩
            · (try dsimp only) <;> (first | omega | rfl | assumption | (simp; done))
            · (try dsimp only) <;> (rw [em]; rfl)
        · have c4k := c4
          try simp only [decide_eq_true_eq, decide_eq_false_iff_not, Int.not_lt, Int.not_le, gt_iff_lt, ge_iff_le, Bool.or_eq_true, Bool.and_eq_true, Bool.or_eq_false_iff, Bool.not_eq_true', Bool.not_eq_false', Int.toNat_natCast, bne_iff_ne, beq_iff_eq, bne_eq_false_iff_eq, beq_eq_false_iff_ne, ne_eq] at c4
          refine .exit ?_
          refine .xcode ?_
          refine .xlp ?_
          refine .xblk ?_
          refine .code ?_
          refine .seq ?_
          refine Wk.rg [0, 1, 2, 3, 4, 5, 6, 7, 8, 9] rfl rfl ?_
          refine mv rfl .no (.u rfl) ?_
          refine mv rfl .no (.u rfl) ?_
          refine nc rfl .no (.u rfl) ?_
          refine fz rfl .no Fx.fo123_0 (.u rfl) ?_
          refine ld rfl .no Fx.ag27 (.u rfl) (fun _ => Rd.own .here (by first | exact wap_f rfl | rfl)) ?_
          refine mv rfl .no (.u rfl) ?_
          refine kD (8) rfl .no Fx.se27 hs (.u rfl) (.u rfl) (fun _ => by omega) (fun _ => by omega) ?_
          intro h59 L59 eL59 lL59 hs59
          have lL59 := lL59 rfl
          refine nc rfl .no (.u rfl) ?_
          refine fz rfl .no Fx.fo123_0 (.u rfl) ?_
          refine s1 rfl (.u rfl) (.u rfl) rfl Fx.sz27 .here (by first | decide | (simp only [wa_len, ba_len, List.length_append, List.length_cons, List.length_nil]; omega)) (rfl) ?_
          refine .nil ?_
          refine .code ?_
          refine .seq ?_
          refine Wk.rg [0, 1] rfl rfl ?_
          refine mv rfl .no (.u rfl) ?_
          refine asg rfl .no (.u rfl) ?_
          refine .nil ?_
          refine .code ?_
          refine .ret ?_
          refine We.fin Tryd.results67 (.tmp rfl .nil) (MSub.cons .here rfl MSub.nil) ?_
          obtain rfl : k = 8 := by omega
          exact ⟨h59, by rw [eL59]; rfl, by rw [em]; rfl, by rw [← eL59]; exact hs59⟩

end Go.Proofs.YtoogjfldgeiapaaDoor
