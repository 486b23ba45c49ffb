/- Lemmas and contracts, joined: Contracts of functions, walked. Statements that leave their order open: reads of memory that stays go ahead of all that does not wait for them, acts too. No condition: proved for every program. -/
import Derived.Test.YtnhdaaggkdegpaaMk4
set_option linter.unusedSimpArgs false
set_option linter.unusedVariables false
set_option linter.unusedSectionVars false
namespace Go.Proofs.Ytnhdaaggkdegpaa
set_option linter.unusedSimpArgs false
set_option linter.unusedVariables false
open Go.Tan Go.RowKit

namespace Fx
theorem go54 : goFn Try.prog 54 = true := by kernel_rfl
theorem go52 : goFn Try.prog 52 = true := by kernel_rfl
theorem zr3 : zrL Try.prog 3 = some ([.int .i64 0]) := by kernel_rfl
theorem go53 : goFn Try.prog 53 = true := by kernel_rfl
end Fx
set_option maxHeartbeats 8000000 in
theorem apply_ok (s : State) (hd : Nat → Sh) (e : Edit) (ha he : Sh) (G : PM) (hs : StR G s hd) (hE : EdR G e ha he) : Ct Try.prog 20 ([s.val hd, e.val ha he] : List Value).toArray G [] (fun G' μ' u => ∃ X hdX err, AppR s e X err ∧ μ' = [] ∧ u = .tuple #[State.val X hdX, .int .i64 err] ∧ StR G' X hdX) := by
  refine Ct.of Try.func20 rfl Try.ntmps20 rfl fun w0 hs0 => ?_
  have hea := hE.add; have hed := hE.drop
  refine .seq ?_
  refine Wk.rg [0, 1, 2, 3] rfl rfl ?_
  refine bx rfl (.u rfl) rfl ?_; intro b2
  refine bx rfl (.u rfl) rfl ?_; intro b3
  refine al rfl Fx.zq27 ?_; intro b4
  refine asg rfl .no (.u rfl) ?_
  refine .nil ?_
  refine .code ?_
  refine .seq ?_
  refine .seq ?_
  refine Wk.rg [0, 1, 2] rfl rfl ?_
  refine lA rfl .no Fx.ag27 (.u rfl) (fun _ => RdN.own (.there (.there .here))) (fun _ => (by first | exact State.len | exact State.len.trans State.len.symm | exact Edit.len | exact Edit.len.trans Edit.len.symm | exact nine2_len | exact nine2_len.trans State.len.symm | rfl)) ?_
  refine kv rfl .no Fx.go12 (Eva.cons (.u rfl) Eva.nil) (fun _ => vRight_ok s hd _ hs) ?_
  refine nt rfl .no (.u rfl) ?_
  refine .nil ?_
  refine .code ?_
  refine .cond rfl (fun c1 => ?_) (fun c1 => ?_)
  · have c1k := c1
    try simp only [decide_eq_true_eq, decide_eq_false_iff_not, Int.not_lt, Int.not_le, gt_iff_lt, ge_iff_le, Bool.or_eq_true, Bool.and_eq_true, Bool.or_eq_false_iff, Bool.and_eq_false_iff, Bool.not_eq_true', Bool.not_eq_false', Int.toNat_natCast, bne_iff_ne, beq_iff_eq, bne_eq_false_iff_eq, beq_eq_false_iff_ne, ne_eq] at c1
    refine .seq ?_
    refine Wk.rg [0, 1, 2] rfl rfl ?_
    refine bC rfl .no Fx.bp27_ .nil rfl ?_
    refine sw rfl (.u rfl) (.u rfl) rfl Fx.sz27 .here (by first | exact State.len | exact State.len.trans State.len.symm | exact Edit.len | exact Edit.len.trans Edit.len.symm | exact nine2_len | exact nine2_len.trans State.len.symm | rfl) (State.one') ?_
    refine asg rfl .no (.u rfl) ?_
    refine .nil ?_
    refine .code ?_
    refine .ret ?_
    refine We.fin0 Try.results20 (.cell rfl (fun w hw => run_loadVarN Fx.ag27 (RdN.own .here) ((by first | exact State.len | exact State.len.trans State.len.symm | exact Edit.len | exact Edit.len.trans Edit.len.symm | exact nine2_len | exact nine2_len.trans State.len.symm | rfl)) hw) (.tmp rfl .nil)) ?_
    exact ⟨State.zero, hd0, 1, .inl ⟨by simpa using c1k, rfl, rfl⟩, rfl, rfl, st_zero⟩
  · have c1k := c1
    try simp only [decide_eq_true_eq, decide_eq_false_iff_not, Int.not_lt, Int.not_le, gt_iff_lt, ge_iff_le, Bool.or_eq_true, Bool.and_eq_true, Bool.or_eq_false_iff, Bool.and_eq_false_iff, Bool.not_eq_true', Bool.not_eq_false', Int.toNat_natCast, bne_iff_ne, beq_iff_eq, bne_eq_false_iff_eq, beq_eq_false_iff_ne, ne_eq] at c1
    refine .skip ?_
    refine .code ?_
    refine .seq ?_
    refine .seq ?_
    have hri : rightS s = true := by simpa using c1k
    have hri' := rightP_of hri
    refine Wk.rg [0, 1, 2, 3, 4, 5, 6, 7, 8, 9, 10, 11, 12, 13, 14] rfl rfl ?_
    refine fz rfl .no Fx.fo32_5 (.u rfl) ?_
    refine ld rfl .no Fx.ag22 (.u rfl) (fun _ => Rd.own (.there .here) (by first | exact wap_f rfl | rfl)) ?_
    refine ln rfl .no Fx.sn22 (.u rfl) ?_
    refine cp rfl .no (.u rfl) (.u rfl) rfl ?_
    refine mv rfl .no (.u rfl) ?_
    refine fz rfl (.f rfl rfl) Fx.fo32_6 (.u rfl) ?_
    refine ld rfl (.f rfl rfl) Fx.ag30 (.s rfl) (fun hc => Rd.own (.there .here) (by first | exact wap_f rfl | rfl)) ?_
    refine ln rfl (.f rfl rfl) Fx.sn30 (.s rfl) ?_
    refine cp rfl (.f rfl rfl) (.s rfl) (.u rfl) rfl ?_
    refine pkO rfl .no (.u rfl) (.s rfl) ?_
    refine mv rfl .no (.u rfl) ?_
    refine lA rfl (.f rfl rfl) Fx.ag27 (.u rfl) (fun _ => RdN.own (.there (.there .here))) (fun _ => (by first | exact State.len | exact State.len.trans State.len.symm | exact Edit.len | exact Edit.len.trans Edit.len.symm | exact nine2_len | exact nine2_len.trans State.len.symm | rfl)) ?_
    refine lA rfl (.f rfl rfl) Fx.ag32 (.u rfl) (fun _ => RdN.own (.there .here)) (fun _ => (by first | exact State.len | exact State.len.trans State.len.symm | exact Edit.len | exact Edit.len.trans Edit.len.symm | exact nine2_len | exact nine2_len.trans State.len.symm | rfl)) ?_
    refine kv rfl (.f rfl rfl) Fx.go48 (Eva.cons (.s rfl) (Eva.cons (.s rfl) Eva.nil)) (fun hc => before_ok s hd _ e ha he) ?_
    refine pkO rfl .no (.u rfl) (.s rfl) ?_
    refine .nil ?_
    refine .code ?_
    refine .cond rfl (fun c2 => ?_) (fun c2 => ?_)
    · have c2k := c2
      try simp only [decide_eq_true_eq, decide_eq_false_iff_not, Int.not_lt, Int.not_le, gt_iff_lt, ge_iff_le, Bool.or_eq_true, Bool.and_eq_true, Bool.or_eq_false_iff, Bool.and_eq_false_iff, Bool.not_eq_true', Bool.not_eq_false', Int.toNat_natCast, bne_iff_ne, beq_iff_eq, bne_eq_false_iff_eq, beq_eq_false_iff_ne, ne_eq] at c2
      refine .seq ?_
      refine Wk.rg [0, 1, 2] rfl rfl ?_
      refine bC rfl .no Fx.bp27_ .nil rfl ?_
      refine sw rfl (.u rfl) (.u rfl) rfl Fx.sz27 .here (by first | exact State.len | exact State.len.trans State.len.symm | exact Edit.len | exact Edit.len.trans Edit.len.symm | exact nine2_len | exact nine2_len.trans State.len.symm | rfl) (State.one') ?_
      refine asg rfl .no (.u rfl) ?_
      refine .nil ?_
      refine .code ?_
      refine .ret ?_
      refine We.fin0 Try.results20 (.cell rfl (fun w hw => run_loadVarN Fx.ag27 (RdN.own .here) ((by first | exact State.len | exact State.len.trans State.len.symm | exact Edit.len | exact Edit.len.trans Edit.len.symm | exact nine2_len | exact nine2_len.trans State.len.symm | rfl)) hw) (.tmp rfl .nil)) ?_
      exact ⟨State.zero, hd0, 180, .inr (.inl ⟨hri, ap_head c2k, rfl, rfl⟩), rfl, rfl, st_zero⟩
    · have c2k := c2
      try simp only [decide_eq_true_eq, decide_eq_false_iff_not, Int.not_lt, Int.not_le, gt_iff_lt, ge_iff_le, Bool.or_eq_true, Bool.and_eq_true, Bool.or_eq_false_iff, Bool.and_eq_false_iff, Bool.not_eq_true', Bool.not_eq_false', Int.toNat_natCast, bne_iff_ne, beq_iff_eq, bne_eq_false_iff_eq, beq_eq_false_iff_ne, ne_eq] at c2
      refine .skip ?_
      refine .code ?_
      refine .seq ?_
      obtain ⟨hok, hla, hld⟩ := ok_head c2k
      have hfw := hri'.few
      refine Wk.rg [0, 1, 2, 3, 4, 5, 6, 7, 8, 9, 10, 11, 12, 13, 14] rfl rfl ?_
      refine fz rfl .no Fx.fo32_0 (.u rfl) ?_
      refine ld rfl .no Fx.ag24 (.u rfl) (fun _ => Rd.own (.there .here) (by first | exact wap_f rfl | rfl)) ?_
      refine fz rfl .no Fx.fo32_1 (.u rfl) ?_
      refine ld rfl .no Fx.ag24 (.u rfl) (fun _ => Rd.own (.there .here) (by first | exact wap_f rfl | rfl)) ?_
      refine fz rfl .no Fx.fo32_2 (.u rfl) ?_
      refine ld rfl .no Fx.ag24 (.u rfl) (fun _ => Rd.own (.there .here) (by first | exact wap_f rfl | rfl)) ?_
      refine fz rfl .no Fx.fo32_3 (.u rfl) ?_
      refine ld rfl .no Fx.ag24 (.u rfl) (fun _ => Rd.own (.there .here) (by first | exact wap_f rfl | rfl)) ?_
      refine fz rfl .no Fx.fo32_4 (.u rfl) ?_
      refine lA rfl .no Fx.ag25 (.u rfl) (fun _ => RdN.part (n := 5) (cs' := (List.range 5).map (fun i => .int .u64 (e.gens i))) (.there .here) (rfl)) (fun _ => rfl) ?_
      refine fz rfl .no Fx.fo27_0 (.u rfl) ?_
      refine lA rfl .no Fx.ag23 (.u rfl) (fun _ => RdN.part (n := 5) (cs' := (List.range 5).map (fun i => (hd i).val (s.lv i).length)) (.there (.there .here)) (rfl)) (fun _ => rfl) ?_
      refine bCe (xC ((hd 0).val (s.lv 0).length) ((hd 1).val (s.lv 1).length) ((hd 2).val (s.lv 2).length) ((hd 3).val (s.lv 3).length) ((hd 4).val (s.lv 4).length) e) rfl .no Fx.bp27_1_2_3_4_5_0 (.cons (.u rfl) rfl (.cons (.u rfl) rfl (.cons (.u rfl) rfl (.cons (.u rfl) rfl (.cons (.u rfl) rfl (.cons (.u rfl) rfl .nil)))))) rfl (rfl) ?_
      refine al rfl Fx.zq27 ?_; intro b6
      refine sw rfl (.u rfl) (.u rfl) rfl Fx.sz27 .here (by first | exact State.len | exact State.len.trans State.len.symm | exact Edit.len | exact Edit.len.trans Edit.len.symm | exact nine2_len | exact nine2_len.trans State.len.symm | rfl) (xC_one rfl rfl rfl rfl rfl) ?_
      refine .nil ?_
      refine .code ?_
      refine .seq ?_
      refine .seq ?_
      refine wk_nilS 40 Meta.cells 48 ?_
      refine wk_nilS 40 Meta.cells 48 ?_
      refine wk_nilS 40 Meta.cells 48 ?_
      refine wk_nilS 40 Meta.cells 48 ?_
      refine wk_nilS 40 Meta.cells 48 ?_
      refine Wk.rg [0] rfl rfl ?_
      refine mv rfl .no (.u rfl) ?_
      refine .nil ?_
      refine .code ?_
      refine .block ?_
      refine Wk.lop (α := Nat × Value × Value × Value × Value × Value) (fun gh => [(49, true, .int .i64 (gh.1 : Int))]) (fun gh => [rS 40 Meta.cells gh.2.2.2.2.2 48 (pk gh.1 4 (s.lv 4) []), rS 40 Meta.cells gh.2.2.2.2.1 48 (pk gh.1 3 (s.lv 3) []), rS 40 Meta.cells gh.2.2.2.1 48 (pk gh.1 2 (s.lv 2) []), rS 40 Meta.cells gh.2.2.1 48 (pk gh.1 1 (s.lv 1) []), rS 40 Meta.cells gh.2.1 48 (pk gh.1 0 (s.lv 0) []), .blk b6 (cl (xC (pk gh.1 0 gh.2.1 ((hd 0).val (s.lv 0).length)) (pk gh.1 1 gh.2.2.1 ((hd 1).val (s.lv 1).length)) (pk gh.1 2 gh.2.2.2.1 ((hd 2).val (s.lv 2).length)) (pk gh.1 3 gh.2.2.2.2.1 ((hd 3).val (s.lv 3).length)) (pk gh.1 4 gh.2.2.2.2.2 ((hd 4).val (s.lv 4).length)) e) 27)])
        (fun gh Gl => (gh.1 ≤ 5)) (fun gh => 5 - gh.1) (0, .slice none 0 0, .slice none 0 0, .slice none 0 0, .slice none 0 0, .slice none 0 0) [(3, true, _), (4, true, _), (6, true, _)] [_, _, _]
        (ESub.cons rfl (by first | rfl | exact evi (by omega)) (ESub.cons rfl rfl (ESub.cons rfl rfl (ESub.cons rfl rfl ESub.nil))))
        (MSub.cons .here rfl (MSub.cons .here rfl (MSub.cons .here rfl (MSub.cons .here rfl (MSub.cons .here rfl (MSub.cons .here rfl (MSub.cons .here rfl (MSub.cons .here rfl (MSub.cons .here rfl MSub.nil))))))))) ?_ ?_
      · (try dsimp only) <;> (first | omega | rfl | assumption | (simp; done))
      intro gh N0 Gl0 hN0 hGl0 hF0
      obtain ⟨k, w0, w1, w2, w3, w4⟩ := gh; dsimp only at hF0 hN0 ⊢
      have hk := hF0
      have hs := hs.mono hGl0
      have hea := hea.mono hGl0
      have hed := hed.mono hGl0
      refine .seq ?_
      refine Wk.rg [0] rfl rfl ?_
      refine cp rfl .no (.u rfl) (.u rfl) rfl ?_
      refine .nil ?_
      refine .code ?_
      refine .seq ?_
      refine .cond rfl (fun c3 => ?_) (fun c3 => ?_)
      · have c3k := c3
        try simp only [decide_eq_true_eq, decide_eq_false_iff_not, Int.not_lt, Int.not_le, gt_iff_lt, ge_iff_le, Bool.or_eq_true, Bool.and_eq_true, Bool.or_eq_false_iff, Bool.and_eq_false_iff, Bool.not_eq_true', Bool.not_eq_false', Int.toNat_natCast, bne_iff_ne, beq_iff_eq, bne_eq_false_iff_eq, beq_eq_false_iff_ne, ne_eq] at c3
        refine .skip ?_
        refine .code ?_
        refine .seq ?_
        refine .block ?_
        refine .seq ?_
        refine Wk.rg [0, 1] rfl rfl ?_
        refine mv rfl .no (.u rfl) ?_
        refine asg rfl .no (.u rfl) ?_
        refine .nil ?_
        refine .code ?_
        rcases (show k = 0 ∨ k = 1 ∨ k = 2 ∨ k = 3 ∨ k = 4 by omega) with rfl | rfl | rfl | rfl | rfl
        · refine Wk.rg [0, 1, 2, 3, 4, 5, 6, 7, 8] rfl rfl ?_
          refine mv rfl .no (.u rfl) ?_
          refine mv rfl .no (.u rfl) ?_
          refine fz rfl .no Fx.fo27_0 (.u rfl) ?_
          refine iA rfl .no Fx.ar23 (.u rfl) (.u rfl) (fun _ => by omega) (fun _ => by omega) ?_
          refine ld (v := ((hd 0).val (s.lv 0).length)) rfl .no Fx.ag22 (.u rfl) (fun _ => Rd.own (.there (.there (.there (.there (.there .here))))) rfl) ?_
          refine kc rfl Fx.go49 (Eva.cons (.u rfl) Eva.nil) (clone_ok (hd 0) (s.lv 0) _ (hs.lv 0 (by decide)) (by have := lv_tot s (i := 0) (by decide); omega)) ?_
          rintro v57 G57 μ57 hG57 ⟨ov57, rfl⟩
          have hs := hs.mono hG57
          have hea := hea.mono hG57
          have hed := hed.mono hG57
          refine fz rfl .no Fx.fo27_0 (.u rfl) ?_
          refine iA rfl .no Fx.ar23 (.u rfl) (.u rfl) (fun _ => by omega) (fun _ => by omega) ?_
          refine s1v rfl (.u rfl) (.u rfl) .here Fx.sz22 (.there (.there (.there (.there (.there (.there .here)))))) (by show _ < 14; decide) (rfl) ?_
          refine .nil ?_
          refine .blk ?_
          refine .code ?_
          refine Wk.rg [0, 1] rfl rfl ?_
          refine arn (((0 + 1) : Nat) : Int) rfl .no (.u rfl) (.u rfl) rfl (fun _ => by omega) (fun _ => wrap_i64 (by omega) (by omega)) ?_
          refine mv rfl .no (.u rfl) ?_
          refine .nil ?_
          refine We.lpo (1, v57, w1, w2, w3, w4) ?_ ?_ ?_ ?_ ?_
          · exact (ESub.cons rfl (by first | rfl | exact evi (by omega)) (ESub.cons rfl rfl (ESub.cons rfl rfl (ESub.cons rfl rfl ESub.nil))))
          · exact (MSub.cons (.there (.there .here)) rfl (MSub.cons (.there (.there .here)) rfl (MSub.cons (.there (.there .here)) rfl (MSub.cons (.there (.there .here)) rfl (MSub.cons (.there .here) rfl (MSub.cons .here rfl (MSub.cons (.there .here) rfl (MSub.cons (.there .here) rfl (MSub.cons (.there .here) rfl MSub.nil)))))))))
          · first | omega | (dsimp only; omega)
          · exact (hGl0).trans hG57
          · (try dsimp only) <;> (first | omega | rfl | assumption | (simp; done))
        · refine Wk.rg [0, 1, 2, 3, 4, 5, 6, 7, 8] rfl rfl ?_
          refine mv rfl .no (.u rfl) ?_
          refine mv rfl .no (.u rfl) ?_
          refine fz rfl .no Fx.fo27_0 (.u rfl) ?_
          refine iA rfl .no Fx.ar23 (.u rfl) (.u rfl) (fun _ => by omega) (fun _ => by omega) ?_
          refine ld (v := ((hd 1).val (s.lv 1).length)) rfl .no Fx.ag22 (.u rfl) (fun _ => Rd.own (.there (.there (.there (.there (.there .here))))) rfl) ?_
          refine kc rfl Fx.go49 (Eva.cons (.u rfl) Eva.nil) (clone_ok (hd 1) (s.lv 1) _ (hs.lv 1 (by decide)) (by have := lv_tot s (i := 1) (by decide); omega)) ?_
          rintro v57 G57 μ57 hG57 ⟨ov57, rfl⟩
          have hs := hs.mono hG57
          have hea := hea.mono hG57
          have hed := hed.mono hG57
          refine fz rfl .no Fx.fo27_0 (.u rfl) ?_
          refine iA rfl .no Fx.ar23 (.u rfl) (.u rfl) (fun _ => by omega) (fun _ => by omega) ?_
          refine s1v rfl (.u rfl) (.u rfl) .here Fx.sz22 (.there (.there (.there (.there (.there (.there .here)))))) (by show _ < 14; decide) (rfl) ?_
          refine .nil ?_
          refine .blk ?_
          refine .code ?_
          refine Wk.rg [0, 1] rfl rfl ?_
          refine arn (((1 + 1) : Nat) : Int) rfl .no (.u rfl) (.u rfl) rfl (fun _ => by omega) (fun _ => wrap_i64 (by omega) (by omega)) ?_
          refine mv rfl .no (.u rfl) ?_
          refine .nil ?_
          refine We.lpo (2, w0, v57, w2, w3, w4) ?_ ?_ ?_ ?_ ?_
          · exact (ESub.cons rfl (by first | rfl | exact evi (by omega)) (ESub.cons rfl rfl (ESub.cons rfl rfl (ESub.cons rfl rfl ESub.nil))))
          · exact (MSub.cons (.there (.there .here)) rfl (MSub.cons (.there (.there .here)) rfl (MSub.cons (.there (.there .here)) rfl (MSub.cons (.there .here) rfl (MSub.cons (.there (.there .here)) rfl (MSub.cons .here rfl (MSub.cons (.there .here) rfl (MSub.cons (.there .here) rfl (MSub.cons (.there .here) rfl MSub.nil)))))))))
          · first | omega | (dsimp only; omega)
          · exact (hGl0).trans hG57
          · (try dsimp only) <;> (first | omega | rfl | assumption | (simp; done))
        · refine Wk.rg [0, 1, 2, 3, 4, 5, 6, 7, 8] rfl rfl ?_
          refine mv rfl .no (.u rfl) ?_
          refine mv rfl .no (.u rfl) ?_
          refine fz rfl .no Fx.fo27_0 (.u rfl) ?_
          refine iA rfl .no Fx.ar23 (.u rfl) (.u rfl) (fun _ => by omega) (fun _ => by omega) ?_
          refine ld (v := ((hd 2).val (s.lv 2).length)) rfl .no Fx.ag22 (.u rfl) (fun _ => Rd.own (.there (.there (.there (.there (.there .here))))) rfl) ?_
          refine kc rfl Fx.go49 (Eva.cons (.u rfl) Eva.nil) (clone_ok (hd 2) (s.lv 2) _ (hs.lv 2 (by decide)) (by have := lv_tot s (i := 2) (by decide); omega)) ?_
          rintro v57 G57 μ57 hG57 ⟨ov57, rfl⟩
          have hs := hs.mono hG57
          have hea := hea.mono hG57
          have hed := hed.mono hG57
          refine fz rfl .no Fx.fo27_0 (.u rfl) ?_
          refine iA rfl .no Fx.ar23 (.u rfl) (.u rfl) (fun _ => by omega) (fun _ => by omega) ?_
          refine s1v rfl (.u rfl) (.u rfl) .here Fx.sz22 (.there (.there (.there (.there (.there (.there .here)))))) (by show _ < 14; decide) (rfl) ?_
          refine .nil ?_
          refine .blk ?_
          refine .code ?_
          refine Wk.rg [0, 1] rfl rfl ?_
          refine arn (((2 + 1) : Nat) : Int) rfl .no (.u rfl) (.u rfl) rfl (fun _ => by omega) (fun _ => wrap_i64 (by omega) (by omega)) ?_
          refine mv rfl .no (.u rfl) ?_
          refine .nil ?_
          refine We.lpo (3, w0, w1, v57, w3, w4) ?_ ?_ ?_ ?_ ?_
          · exact (ESub.cons rfl (by first | rfl | exact evi (by omega)) (ESub.cons rfl rfl (ESub.cons rfl rfl (ESub.cons rfl rfl ESub.nil))))
          · exact (MSub.cons (.there (.there .here)) rfl (MSub.cons (.there (.there .here)) rfl (MSub.cons (.there .here) rfl (MSub.cons (.there (.there .here)) rfl (MSub.cons (.there (.there .here)) rfl (MSub.cons .here rfl (MSub.cons (.there .here) rfl (MSub.cons (.there .here) rfl (MSub.cons (.there .here) rfl MSub.nil)))))))))
          · first | omega | (dsimp only; omega)
          · exact (hGl0).trans hG57
          · (try dsimp only) <;> (first | omega | rfl | assumption | (simp; done))
        · refine Wk.rg [0, 1, 2, 3, 4, 5, 6, 7, 8] rfl rfl ?_
          refine mv rfl .no (.u rfl) ?_
          refine mv rfl .no (.u rfl) ?_
          refine fz rfl .no Fx.fo27_0 (.u rfl) ?_
          refine iA rfl .no Fx.ar23 (.u rfl) (.u rfl) (fun _ => by omega) (fun _ => by omega) ?_
          refine ld (v := ((hd 3).val (s.lv 3).length)) rfl .no Fx.ag22 (.u rfl) (fun _ => Rd.own (.there (.there (.there (.there (.there .here))))) rfl) ?_
          refine kc rfl Fx.go49 (Eva.cons (.u rfl) Eva.nil) (clone_ok (hd 3) (s.lv 3) _ (hs.lv 3 (by decide)) (by have := lv_tot s (i := 3) (by decide); omega)) ?_
          rintro v57 G57 μ57 hG57 ⟨ov57, rfl⟩
          have hs := hs.mono hG57
          have hea := hea.mono hG57
          have hed := hed.mono hG57
          refine fz rfl .no Fx.fo27_0 (.u rfl) ?_
          refine iA rfl .no Fx.ar23 (.u rfl) (.u rfl) (fun _ => by omega) (fun _ => by omega) ?_
          refine s1v rfl (.u rfl) (.u rfl) .here Fx.sz22 (.there (.there (.there (.there (.there (.there .here)))))) (by show _ < 14; decide) (rfl) ?_
          refine .nil ?_
          refine .blk ?_
          refine .code ?_
          refine Wk.rg [0, 1] rfl rfl ?_
          refine arn (((3 + 1) : Nat) : Int) rfl .no (.u rfl) (.u rfl) rfl (fun _ => by omega) (fun _ => wrap_i64 (by omega) (by omega)) ?_
          refine mv rfl .no (.u rfl) ?_
          refine .nil ?_
          refine We.lpo (4, w0, w1, w2, v57, w4) ?_ ?_ ?_ ?_ ?_
          · exact (ESub.cons rfl (by first | rfl | exact evi (by omega)) (ESub.cons rfl rfl (ESub.cons rfl rfl (ESub.cons rfl rfl ESub.nil))))
          · exact (MSub.cons (.there (.there .here)) rfl (MSub.cons (.there .here) rfl (MSub.cons (.there (.there .here)) rfl (MSub.cons (.there (.there .here)) rfl (MSub.cons (.there (.there .here)) rfl (MSub.cons .here rfl (MSub.cons (.there .here) rfl (MSub.cons (.there .here) rfl (MSub.cons (.there .here) rfl MSub.nil)))))))))
          · first | omega | (dsimp only; omega)
          · exact (hGl0).trans hG57
          · (try dsimp only) <;> (first | omega | rfl | assumption | (simp; done))
        · refine Wk.rg [0, 1, 2, 3, 4, 5, 6, 7, 8] rfl rfl ?_
          refine mv rfl .no (.u rfl) ?_
          refine mv rfl .no (.u rfl) ?_
          refine fz rfl .no Fx.fo27_0 (.u rfl) ?_
          refine iA rfl .no Fx.ar23 (.u rfl) (.u rfl) (fun _ => by omega) (fun _ => by omega) ?_
          refine ld (v := ((hd 4).val (s.lv 4).length)) rfl .no Fx.ag22 (.u rfl) (fun _ => Rd.own (.there (.there (.there (.there (.there .here))))) rfl) ?_
          refine kc rfl Fx.go49 (Eva.cons (.u rfl) Eva.nil) (clone_ok (hd 4) (s.lv 4) _ (hs.lv 4 (by decide)) (by have := lv_tot s (i := 4) (by decide); omega)) ?_
          rintro v57 G57 μ57 hG57 ⟨ov57, rfl⟩
          have hs := hs.mono hG57
          have hea := hea.mono hG57
          have hed := hed.mono hG57
          refine fz rfl .no Fx.fo27_0 (.u rfl) ?_
          refine iA rfl .no Fx.ar23 (.u rfl) (.u rfl) (fun _ => by omega) (fun _ => by omega) ?_
          refine s1v rfl (.u rfl) (.u rfl) .here Fx.sz22 (.there (.there (.there (.there (.there (.there .here)))))) (by show _ < 14; decide) (rfl) ?_
          refine .nil ?_
          refine .blk ?_
          refine .code ?_
          refine Wk.rg [0, 1] rfl rfl ?_
          refine arn (((4 + 1) : Nat) : Int) rfl .no (.u rfl) (.u rfl) rfl (fun _ => by omega) (fun _ => wrap_i64 (by omega) (by omega)) ?_
          refine mv rfl .no (.u rfl) ?_
          refine .nil ?_
          refine We.lpo (5, w0, w1, w2, w3, v57) ?_ ?_ ?_ ?_ ?_
          · exact (ESub.cons rfl (by first | rfl | exact evi (by omega)) (ESub.cons rfl rfl (ESub.cons rfl rfl (ESub.cons rfl rfl ESub.nil))))
          · exact (MSub.cons (.there .here) rfl (MSub.cons (.there (.there .here)) rfl (MSub.cons (.there (.there .here)) rfl (MSub.cons (.there (.there .here)) rfl (MSub.cons (.there (.there .here)) rfl (MSub.cons .here rfl (MSub.cons (.there .here) rfl (MSub.cons (.there .here) rfl (MSub.cons (.there .here) rfl MSub.nil)))))))))
          · first | omega | (dsimp only; omega)
          · exact (hGl0).trans hG57
          · (try dsimp only) <;> (first | omega | rfl | assumption | (simp; done))
      · have c3k := c3
        try simp only [decide_eq_true_eq, decide_eq_false_iff_not, Int.not_lt, Int.not_le, gt_iff_lt, ge_iff_le, Bool.or_eq_true, Bool.and_eq_true, Bool.or_eq_false_iff, Bool.and_eq_false_iff, Bool.not_eq_true', Bool.not_eq_false', Int.toNat_natCast, bne_iff_ne, beq_iff_eq, bne_eq_false_iff_eq, beq_eq_false_iff_ne, ne_eq] at c3
        refine .exit ?_
        refine .xcode ?_
        refine .xlp ?_
        refine .xblk ?_
        refine .code ?_
        refine .seq ?_
        refine .seq ?_
        refine Wk.rg [0, 1, 2, 3] rfl rfl ?_
        refine fz rfl .no Fx.fo32_6 (.u rfl) ?_
        refine ld rfl .no Fx.ag30 (.u rfl) (fun _ => Rd.own (.there (.there (.there (.there (.there (.there (.there .here))))))) (by first | exact wap_f rfl | rfl)) ?_
        refine ln rfl .no Fx.sn30 (.u rfl) ?_
        refine mv rfl .no (.u rfl) ?_
        refine .nil ?_
        refine .code ?_
        refine .block ?_
        obtain rfl : k = 5 := by omega
        refine Wk.lop (α := Nat × Value × Value × Value × Value × Value × Lvs) (fun gh => [(64, true, .int .i64 (gh.1 : Int))]) (fun gh => [rS 40 Meta.cells gh.2.2.2.2.2.1 48 (gh.2.2.2.2.2.2 4), rS 40 Meta.cells gh.2.2.2.2.1 48 (gh.2.2.2.2.2.2 3), rS 40 Meta.cells gh.2.2.2.1 48 (gh.2.2.2.2.2.2 2), rS 40 Meta.cells gh.2.2.1 48 (gh.2.2.2.2.2.2 1), rS 40 Meta.cells gh.2.1 48 (gh.2.2.2.2.2.2 0), .blk b6 (cl (xC gh.2.1 gh.2.2.1 gh.2.2.2.1 gh.2.2.2.2.1 gh.2.2.2.2.2.1 e) 27)])
          (fun gh Gl => (gh.1 ≤ e.drop.length) ∧ (foldO dropF (e.drop.take gh.1) s.lv = some gh.2.2.2.2.2.2)) (fun gh => e.drop.length - gh.1) (0, w0, w1, w2, w3, w4, s.lv) [(3, true, _), (4, true, _), (6, true, _), (62, true, _), (63, true, _)] [_, _, _]
          (ESub.cons rfl (by first | rfl | exact evi (by omega)) (ESub.cons rfl rfl (ESub.cons rfl rfl (ESub.cons rfl rfl (ESub.cons rfl rfl (ESub.cons rfl rfl ESub.nil))))))
          (MSub.cons .here rfl (MSub.cons .here rfl (MSub.cons .here rfl (MSub.cons .here rfl (MSub.cons .here rfl (MSub.cons .here rfl (MSub.cons .here rfl (MSub.cons .here rfl (MSub.cons .here rfl MSub.nil))))))))) ?_ ?_
        · refine ⟨?_, ?_⟩
          · (try dsimp only) <;> (first | omega | rfl | assumption | (simp; done))
          · (try dsimp only) <;> (rfl)
        intro gh N1 Gl1 hN1 hGl1 hF1
        obtain ⟨j, w0, w1, w2, w3, w4, L⟩ := gh; dsimp only at hF1 hN1 ⊢
        obtain ⟨hj, hL⟩ := hF1
        have hs := hs.mono hGl1
        have hea := hea.mono hGl1
        have hed := hed.mono hGl1
        refine .seq ?_
        refine Wk.rg [0] rfl rfl ?_
        refine cp rfl .no (.u rfl) (.u rfl) rfl ?_
        refine .nil ?_
        refine .code ?_
        refine .seq ?_
        refine .cond rfl (fun c4 => ?_) (fun c4 => ?_)
        · have c4k := c4
          try simp only [decide_eq_true_eq, decide_eq_false_iff_not, Int.not_lt, Int.not_le, gt_iff_lt, ge_iff_le, Bool.or_eq_true, Bool.and_eq_true, Bool.or_eq_false_iff, Bool.and_eq_false_iff, Bool.not_eq_true', Bool.not_eq_false', Int.toNat_natCast, bne_iff_ne, beq_iff_eq, bne_eq_false_iff_eq, beq_eq_false_iff_ne, ne_eq] at c4
          refine .skip ?_
          refine .code ?_
          refine .seq ?_
          refine .block ?_
          refine .seq ?_
          refine Wk.rg [0, 1, 2, 3] rfl rfl ?_
          obtain ⟨g, eg⟩ := getx (k := j) (xs := e.drop) (by omega)
          have hwg := (hE.wf.drop g (List.mem_of_getElem? eg)).level
          refine ih rfl .no Fx.se30 (.u rfl) (.u rfl) (fun _ => by omega) (fun _ => by omega) (fun _ => hed.nn (k := j) (by first | omega | (simp only [Bool.and_eq_true, decide_eq_true_eq] at hc; omega) | (simp only [List.length_cons, List.length_nil]; omega))) ?_
          refine lA rfl .no Fx.ag51 (.u rfl) (fun _ => (hed.at (by omega) eg).rd) (fun _ => rfl) ?_
          refine al rfl Fx.zr51 ?_; intro b9
          refine sw rfl (.u rfl) (.u rfl) rfl Fx.sz51 .here rfl (gones1) ?_
          refine .nil ?_
          refine .code ?_
          refine .seq ?_
          refine .seq ?_
          refine Wk.rg [0, 1, 2] rfl rfl ?_
          refine fz rfl .no Fx.fo51_0 (.u rfl) ?_
          refine ld rfl .no Fx.ag5 (.u rfl) (fun _ => Rd.own .here (by first | exact wap_f rfl | rfl)) ?_
          refine cp rfl .no (.u rfl) (.u rfl) rfl ?_
          refine .nil ?_
          refine .code ?_
          refine .cond rfl (fun c5 => ?_) (fun c5 => ?_)
          · have c5k := c5
            try simp only [decide_eq_true_eq, decide_eq_false_iff_not, Int.not_lt, Int.not_le, gt_iff_lt, ge_iff_le, Bool.or_eq_true, Bool.and_eq_true, Bool.or_eq_false_iff, Bool.and_eq_false_iff, Bool.not_eq_true', Bool.not_eq_false', Int.toNat_natCast, bne_iff_ne, beq_iff_eq, bne_eq_false_iff_eq, beq_eq_false_iff_ne, ne_eq] at c5
            refine .seq ?_
            refine Wk.rg [0, 1, 2] rfl rfl ?_
            refine bC rfl .no Fx.bp27_ .nil rfl ?_
            refine sw rfl (.u rfl) (.u rfl) rfl Fx.sz27 (.there (.there (.there (.there (.there (.there (.there .here))))))) (by first | exact State.len | exact State.len.trans State.len.symm | exact Edit.len | exact Edit.len.trans Edit.len.symm | exact nine2_len | exact nine2_len.trans State.len.symm | rfl) (State.one') ?_
            refine asg rfl .no (.u rfl) ?_
            refine .nil ?_
            refine .code ?_
            refine .ret ?_
            refine We.fin0 Try.results20 (.cell rfl (fun w hw => run_loadVarN Fx.ag27 (RdN.own .here) ((by first | exact State.len | exact State.len.trans State.len.symm | exact Edit.len | exact Edit.len.trans Edit.len.symm | exact nine2_len | exact nine2_len.trans State.len.symm | rfl)) hw) (.tmp rfl .nil)) ?_
            exact ⟨State.zero, hd0, 180, .inr (.inl ⟨hri, ap_drop (fold_stop eg hL (dropF_high (by omega))), rfl, rfl⟩), rfl, rfl, st_zero⟩
          · have c5k := c5
            try simp only [decide_eq_true_eq, decide_eq_false_iff_not, Int.not_lt, Int.not_le, gt_iff_lt, ge_iff_le, Bool.or_eq_true, Bool.and_eq_true, Bool.or_eq_false_iff, Bool.and_eq_false_iff, Bool.not_eq_true', Bool.not_eq_false', Int.toNat_natCast, bne_iff_ne, beq_iff_eq, bne_eq_false_iff_eq, beq_eq_false_iff_ne, ne_eq] at c5
            refine .skip ?_
            refine .code ?_
            refine .seq ?_
            have hg5 : g.level = 0 ∨ g.level = 1 ∨ g.level = 2 ∨ g.level = 3 ∨ g.level = 4 := by omega
            rcases hg5 with hg5 | hg5 | hg5 | hg5 | hg5
            · refine wk_fz .here (by intro b hb; cases hb) ?_; intro Gfb9 hleb9 hbb9
              have hs := hs.mono hleb9
              have hea := hea.mono hleb9
              have hed := hed.mono hleb9
              refine Wk.rg [0, 1, 2, 3, 4] rfl rfl ?_
              refine fa rfl .no Fx.fo51_0 (.u rfl) ?_
              refine ld rfl .no Fx.ag5 (.u rfl) (fun _ => (hbb9.rd (by rfl)).rd) ?_
              refine fz rfl .no Fx.fo27_0 (.u rfl) ?_
              refine iA rfl .no Fx.ar23 (.u rfl) (.u rfl) (fun _ => by omega) (fun _ => by omega) ?_
              rw [show 0 + g.level.toNat * 1 = 0 from by rw [hg5]; rfl]
              refine asg rfl .no (.u rfl) ?_
              refine .nil ?_
              refine .code ?_
              refine .seq ?_
              have hll := dropL_len hri' hL (i := 0) (by decide)
              refine Wk.rg [0, 1, 2, 3, 4, 5] rfl rfl ?_
              refine mv rfl .no (.u rfl) ?_
              refine nc rfl .no (.u rfl) ?_
              refine ld rfl .no Fx.ag22 (.u rfl) (fun _ => Rd.own (.there (.there (.there (.there (.there .here))))) (by first | exact wap_f rfl | rfl)) ?_
              refine mf (vf := #[]) (vc := [Value.pointer (some ⟨b9, 0, none⟩)].toArray) rfl .no (fun a ha _ => by simp) (fun a ha _ => by simp [(Ev.u (c := true) rfl : Ev _ true (.tmp 9) _).eval ha rfl]) ?_
              refine ka rfl (.inr rfl) Fx.go50 (Eva.cons (.u rfl) (Eva.cons (.u rfl) Eva.nil)) (mtk1 (.there (.there (.there (.there .here))))) (Ct.lendS (Q := fun ν u => ν = [] ∧ u = .int .i64 (idxI (isN g) (L 0))) (fun _ _ => Meta.len _) (fun sh G2 hle hv hsl => by subst hv; exact idx_ok sh (L 0) G2 hsl (by omega) 51 Fx.go51 [.pointer (some ⟨b9, 0, none⟩)] (isN g) (fun G3 h3 m _ => same1_ok m g b9 G3 (hbb9.mono (hle.trans h3))))) ?_
              rintro _ G80 μ80 hG80 ⟨_, rfl, rfl, rfl⟩
              have hs := hs.mono hG80
              have hea := hea.mono hG80
              have hed := hed.mono hG80
              have hbb9 := hbb9.mono hG80
              refine asg rfl .no (.u rfl) ?_
              refine .nil ?_
              refine .code ?_
              refine .seq ?_
              refine .seq ?_
              refine Wk.rg [0, 1] rfl rfl ?_
              refine mv rfl .no (.u rfl) ?_
              refine cp rfl .no (.u rfl) (.u rfl) rfl ?_
              refine .nil ?_
              refine .code ?_
              refine .cond rfl (fun c6 => ?_) (fun c6 => ?_)
              · have c6k := c6
                try simp only [decide_eq_true_eq, decide_eq_false_iff_not, Int.not_lt, Int.not_le, gt_iff_lt, ge_iff_le, Bool.or_eq_true, Bool.and_eq_true, Bool.or_eq_false_iff, Bool.and_eq_false_iff, Bool.not_eq_true', Bool.not_eq_false', Int.toNat_natCast, bne_iff_ne, beq_iff_eq, bne_eq_false_iff_eq, beq_eq_false_iff_ne, ne_eq] at c6
                refine .seq ?_
                refine Wk.rg [0, 1, 2] rfl rfl ?_
                refine bC rfl .no Fx.bp27_ .nil rfl ?_
                refine sw rfl (.u rfl) (.u rfl) rfl Fx.sz27 (.there (.there (.there (.there (.there (.there .here)))))) (by first | exact State.len | exact State.len.trans State.len.symm | exact Edit.len | exact Edit.len.trans Edit.len.symm | exact nine2_len | exact nine2_len.trans State.len.symm | rfl) (State.one') ?_
                refine asg rfl .no (.u rfl) ?_
                refine .nil ?_
                refine .code ?_
                refine .ret ?_
                refine We.fin0 Try.results20 (.cell rfl (fun w hw => run_loadVarN Fx.ag27 (RdN.own .here) ((by first | exact State.len | exact State.len.trans State.len.symm | exact Edit.len | exact Edit.len.trans Edit.len.symm | exact nine2_len | exact nine2_len.trans State.len.symm | rfl)) hw) (.tmp rfl .nil)) ?_
                exact ⟨State.zero, hd0, 180, .inr (.inl ⟨hri, ap_drop (fold_stop eg hL (dropF_miss (q := 0) hg5 (by assumption))), rfl, rfl⟩), rfl, rfl, st_zero⟩
              · have c6k := c6
                try simp only [decide_eq_true_eq, decide_eq_false_iff_not, Int.not_lt, Int.not_le, gt_iff_lt, ge_iff_le, Bool.or_eq_true, Bool.and_eq_true, Bool.or_eq_false_iff, Bool.and_eq_false_iff, Bool.not_eq_true', Bool.not_eq_false', Int.toNat_natCast, bne_iff_ne, beq_iff_eq, bne_eq_false_iff_eq, beq_eq_false_iff_ne, ne_eq] at c6
                refine .skip ?_
                refine .code ?_
                obtain ⟨kk, hk1, hk2⟩ : ∃ kk : Nat, idxI (isN g) (L 0) = (kk : Int) ∧ kk < (L 0).length := ⟨_, (idx_lt (by omega)).2, (idx_lt (by omega)).1⟩
                rw [hk1]
                refine Wk.rg [0, 1, 2, 3, 4, 5, 6, 7, 8, 9] rfl rfl ?_
                refine mv rfl .no (.u rfl) ?_
                refine mv rfl .no (.u rfl) ?_
                refine nc rfl .no (.u rfl) ?_
                refine ld rfl .no Fx.ag22 (.u rfl) (fun _ => Rd.own (.there (.there (.there (.there (.there .here))))) (by first | exact wap_f rfl | rfl)) ?_
                refine mv rfl .no (.u rfl) ?_
                refine mv rfl .no (.u rfl) ?_
                refine arn (((kk + 1) : Nat) : Int) rfl .no (.u rfl) (.u rfl) rfl (fun _ => by omega) (fun _ => wrap_i64 (by omega) (by omega)) ?_
                refine ka rfl (.inr rfl) Fx.go52 (Eva.cons (.u rfl) (Eva.cons (.u rfl) (Eva.cons (.u rfl) Eva.nil))) (mtk1 .here) (del_ok (L 0) w0 kk _ hk2 (by omega)) ?_
                rintro v91 G91 μ91 hG91 rfl
                have hs := hs.mono hG91
                have hea := hea.mono hG91
                have hed := hed.mono hG91
                have hbb9 := hbb9.mono hG91
                refine nc rfl .no (.u rfl) ?_
                refine s1v rfl (.u rfl) (.u rfl) .here Fx.sz22 (.there (.there (.there (.there (.there .here))))) (by show _ < 14; first | decide | omega) (rfl) ?_
                refine .nil ?_
                refine .blk ?_
                refine .code ?_
                refine Wk.rg [0, 1] rfl rfl ?_
                refine arn (((j + 1) : Nat) : Int) rfl .no (.u rfl) (.u rfl) rfl (fun _ => by omega) (fun _ => wrap_i64 (by omega) (by omega)) ?_
                refine mv rfl .no (.u rfl) ?_
                refine .nil ?_
                refine We.lpo (j + 1, v91, w1, w2, w3, w4, updL L 0 ((L 0).take kk ++ (L 0).drop (kk + 1))) ?_ ?_ ?_ ?_ ?_
                · exact (ESub.cons rfl (by first | rfl | exact evi (by omega)) (ESub.cons rfl rfl (ESub.cons rfl rfl (ESub.cons rfl rfl (ESub.cons rfl rfl (ESub.cons rfl rfl ESub.nil))))))
                · exact (MSub.cons (.there (.there .here)) rfl (MSub.cons (.there (.there .here)) rfl (MSub.cons (.there (.there .here)) rfl (MSub.cons (.there (.there .here)) rfl (MSub.cons (.there .here) rfl (MSub.cons .here rfl (MSub.cons .here rfl (MSub.cons .here rfl (MSub.cons .here rfl MSub.nil)))))))))
                · first | omega | (dsimp only; omega)
                · exact (((hGl1).trans hleb9).trans hG80).trans hG91
                · refine ⟨?_, ?_⟩
                  · (try dsimp only) <;> (first | omega | rfl | assumption | (simp; done))
                  · (try dsimp only) <;> (exact fold_step eg hL (dropF_hit hg5 (by decide) hk1))
            · refine wk_fz .here (by intro b hb; cases hb) ?_; intro Gfb9 hleb9 hbb9
              have hs := hs.mono hleb9
              have hea := hea.mono hleb9
              have hed := hed.mono hleb9
              refine Wk.rg [0, 1, 2, 3, 4] rfl rfl ?_
              refine fa rfl .no Fx.fo51_0 (.u rfl) ?_
              refine ld rfl .no Fx.ag5 (.u rfl) (fun _ => (hbb9.rd (by rfl)).rd) ?_
              refine fz rfl .no Fx.fo27_0 (.u rfl) ?_
              refine iA rfl .no Fx.ar23 (.u rfl) (.u rfl) (fun _ => by omega) (fun _ => by omega) ?_
              rw [show 0 + g.level.toNat * 1 = 1 from by rw [hg5]; rfl]
              refine asg rfl .no (.u rfl) ?_
              refine .nil ?_
              refine .code ?_
              refine .seq ?_
              have hll := dropL_len hri' hL (i := 1) (by decide)
              refine Wk.rg [0, 1, 2, 3, 4, 5] rfl rfl ?_
              refine mv rfl .no (.u rfl) ?_
              refine nc rfl .no (.u rfl) ?_
              refine ld rfl .no Fx.ag22 (.u rfl) (fun _ => Rd.own (.there (.there (.there (.there (.there .here))))) (by first | exact wap_f rfl | rfl)) ?_
              refine mf (vf := #[]) (vc := [Value.pointer (some ⟨b9, 0, none⟩)].toArray) rfl .no (fun a ha _ => by simp) (fun a ha _ => by simp [(Ev.u (c := true) rfl : Ev _ true (.tmp 9) _).eval ha rfl]) ?_
              refine ka rfl (.inr rfl) Fx.go50 (Eva.cons (.u rfl) (Eva.cons (.u rfl) Eva.nil)) (mtk1 (.there (.there (.there .here)))) (Ct.lendS (Q := fun ν u => ν = [] ∧ u = .int .i64 (idxI (isN g) (L 1))) (fun _ _ => Meta.len _) (fun sh G2 hle hv hsl => by subst hv; exact idx_ok sh (L 1) G2 hsl (by omega) 51 Fx.go51 [.pointer (some ⟨b9, 0, none⟩)] (isN g) (fun G3 h3 m _ => same1_ok m g b9 G3 (hbb9.mono (hle.trans h3))))) ?_
              rintro _ G80 μ80 hG80 ⟨_, rfl, rfl, rfl⟩
              have hs := hs.mono hG80
              have hea := hea.mono hG80
              have hed := hed.mono hG80
              have hbb9 := hbb9.mono hG80
              refine asg rfl .no (.u rfl) ?_
              refine .nil ?_
              refine .code ?_
              refine .seq ?_
              refine .seq ?_
              refine Wk.rg [0, 1] rfl rfl ?_
              refine mv rfl .no (.u rfl) ?_
              refine cp rfl .no (.u rfl) (.u rfl) rfl ?_
              refine .nil ?_
              refine .code ?_
              refine .cond rfl (fun c7 => ?_) (fun c7 => ?_)
              · have c7k := c7
                try simp only [decide_eq_true_eq, decide_eq_false_iff_not, Int.not_lt, Int.not_le, gt_iff_lt, ge_iff_le, Bool.or_eq_true, Bool.and_eq_true, Bool.or_eq_false_iff, Bool.and_eq_false_iff, Bool.not_eq_true', Bool.not_eq_false', Int.toNat_natCast, bne_iff_ne, beq_iff_eq, bne_eq_false_iff_eq, beq_eq_false_iff_ne, ne_eq] at c7
                refine .seq ?_
                refine Wk.rg [0, 1, 2] rfl rfl ?_
                refine bC rfl .no Fx.bp27_ .nil rfl ?_
                refine sw rfl (.u rfl) (.u rfl) rfl Fx.sz27 (.there (.there (.there (.there (.there (.there .here)))))) (by first | exact State.len | exact State.len.trans State.len.symm | exact Edit.len | exact Edit.len.trans Edit.len.symm | exact nine2_len | exact nine2_len.trans State.len.symm | rfl) (State.one') ?_
                refine asg rfl .no (.u rfl) ?_
                refine .nil ?_
                refine .code ?_
                refine .ret ?_
                refine We.fin0 Try.results20 (.cell rfl (fun w hw => run_loadVarN Fx.ag27 (RdN.own .here) ((by first | exact State.len | exact State.len.trans State.len.symm | exact Edit.len | exact Edit.len.trans Edit.len.symm | exact nine2_len | exact nine2_len.trans State.len.symm | rfl)) hw) (.tmp rfl .nil)) ?_
                exact ⟨State.zero, hd0, 180, .inr (.inl ⟨hri, ap_drop (fold_stop eg hL (dropF_miss (q := 1) hg5 (by assumption))), rfl, rfl⟩), rfl, rfl, st_zero⟩
              · have c7k := c7
                try simp only [decide_eq_true_eq, decide_eq_false_iff_not, Int.not_lt, Int.not_le, gt_iff_lt, ge_iff_le, Bool.or_eq_true, Bool.and_eq_true, Bool.or_eq_false_iff, Bool.and_eq_false_iff, Bool.not_eq_true', Bool.not_eq_false', Int.toNat_natCast, bne_iff_ne, beq_iff_eq, bne_eq_false_iff_eq, beq_eq_false_iff_ne, ne_eq] at c7
                refine .skip ?_
                refine .code ?_
                obtain ⟨kk, hk1, hk2⟩ : ∃ kk : Nat, idxI (isN g) (L 1) = (kk : Int) ∧ kk < (L 1).length := ⟨_, (idx_lt (by omega)).2, (idx_lt (by omega)).1⟩
                rw [hk1]
                refine Wk.rg [0, 1, 2, 3, 4, 5, 6, 7, 8, 9] rfl rfl ?_
                refine mv rfl .no (.u rfl) ?_
                refine mv rfl .no (.u rfl) ?_
                refine nc rfl .no (.u rfl) ?_
                refine ld rfl .no Fx.ag22 (.u rfl) (fun _ => Rd.own (.there (.there (.there (.there (.there .here))))) (by first | exact wap_f rfl | rfl)) ?_
                refine mv rfl .no (.u rfl) ?_
                refine mv rfl .no (.u rfl) ?_
                refine arn (((kk + 1) : Nat) : Int) rfl .no (.u rfl) (.u rfl) rfl (fun _ => by omega) (fun _ => wrap_i64 (by omega) (by omega)) ?_
                refine ka rfl (.inr rfl) Fx.go52 (Eva.cons (.u rfl) (Eva.cons (.u rfl) (Eva.cons (.u rfl) Eva.nil))) (mtk1 .here) (del_ok (L 1) w1 kk _ hk2 (by omega)) ?_
                rintro v91 G91 μ91 hG91 rfl
                have hs := hs.mono hG91
                have hea := hea.mono hG91
                have hed := hed.mono hG91
                have hbb9 := hbb9.mono hG91
                refine nc rfl .no (.u rfl) ?_
                refine s1v rfl (.u rfl) (.u rfl) .here Fx.sz22 (.there (.there (.there (.there (.there .here))))) (by show _ < 14; first | decide | omega) (rfl) ?_
                refine .nil ?_
                refine .blk ?_
                refine .code ?_
                refine Wk.rg [0, 1] rfl rfl ?_
                refine arn (((j + 1) : Nat) : Int) rfl .no (.u rfl) (.u rfl) rfl (fun _ => by omega) (fun _ => wrap_i64 (by omega) (by omega)) ?_
                refine mv rfl .no (.u rfl) ?_
                refine .nil ?_
                refine We.lpo (j + 1, w0, v91, w2, w3, w4, updL L 1 ((L 1).take kk ++ (L 1).drop (kk + 1))) ?_ ?_ ?_ ?_ ?_
                · exact (ESub.cons rfl (by first | rfl | exact evi (by omega)) (ESub.cons rfl rfl (ESub.cons rfl rfl (ESub.cons rfl rfl (ESub.cons rfl rfl (ESub.cons rfl rfl ESub.nil))))))
                · exact (MSub.cons (.there (.there .here)) rfl (MSub.cons (.there (.there .here)) rfl (MSub.cons (.there (.there .here)) rfl (MSub.cons (.there .here) rfl (MSub.cons (.there .here) rfl (MSub.cons .here rfl (MSub.cons .here rfl (MSub.cons .here rfl (MSub.cons .here rfl MSub.nil)))))))))
                · first | omega | (dsimp only; omega)
                · exact (((hGl1).trans hleb9).trans hG80).trans hG91
                · refine ⟨?_, ?_⟩
                  · (try dsimp only) <;> (first | omega | rfl | assumption | (simp; done))
                  · (try dsimp only) <;> (exact fold_step eg hL (dropF_hit hg5 (by decide) hk1))
            · refine wk_fz .here (by intro b hb; cases hb) ?_; intro Gfb9 hleb9 hbb9
              have hs := hs.mono hleb9
              have hea := hea.mono hleb9
              have hed := hed.mono hleb9
              refine Wk.rg [0, 1, 2, 3, 4] rfl rfl ?_
              refine fa rfl .no Fx.fo51_0 (.u rfl) ?_
              refine ld rfl .no Fx.ag5 (.u rfl) (fun _ => (hbb9.rd (by rfl)).rd) ?_
              refine fz rfl .no Fx.fo27_0 (.u rfl) ?_
              refine iA rfl .no Fx.ar23 (.u rfl) (.u rfl) (fun _ => by omega) (fun _ => by omega) ?_
              rw [show 0 + g.level.toNat * 1 = 2 from by rw [hg5]; rfl]
              refine asg rfl .no (.u rfl) ?_
              refine .nil ?_
              refine .code ?_
              refine .seq ?_
              have hll := dropL_len hri' hL (i := 2) (by decide)
              refine Wk.rg [0, 1, 2, 3, 4, 5] rfl rfl ?_
              refine mv rfl .no (.u rfl) ?_
              refine nc rfl .no (.u rfl) ?_
              refine ld rfl .no Fx.ag22 (.u rfl) (fun _ => Rd.own (.there (.there (.there (.there (.there .here))))) (by first | exact wap_f rfl | rfl)) ?_
              refine mf (vf := #[]) (vc := [Value.pointer (some ⟨b9, 0, none⟩)].toArray) rfl .no (fun a ha _ => by simp) (fun a ha _ => by simp [(Ev.u (c := true) rfl : Ev _ true (.tmp 9) _).eval ha rfl]) ?_
              refine ka rfl (.inr rfl) Fx.go50 (Eva.cons (.u rfl) (Eva.cons (.u rfl) Eva.nil)) (mtk1 (.there (.there .here))) (Ct.lendS (Q := fun ν u => ν = [] ∧ u = .int .i64 (idxI (isN g) (L 2))) (fun _ _ => Meta.len _) (fun sh G2 hle hv hsl => by subst hv; exact idx_ok sh (L 2) G2 hsl (by omega) 51 Fx.go51 [.pointer (some ⟨b9, 0, none⟩)] (isN g) (fun G3 h3 m _ => same1_ok m g b9 G3 (hbb9.mono (hle.trans h3))))) ?_
              rintro _ G80 μ80 hG80 ⟨_, rfl, rfl, rfl⟩
              have hs := hs.mono hG80
              have hea := hea.mono hG80
              have hed := hed.mono hG80
              have hbb9 := hbb9.mono hG80
              refine asg rfl .no (.u rfl) ?_
              refine .nil ?_
              refine .code ?_
              refine .seq ?_
              refine .seq ?_
              refine Wk.rg [0, 1] rfl rfl ?_
              refine mv rfl .no (.u rfl) ?_
              refine cp rfl .no (.u rfl) (.u rfl) rfl ?_
              refine .nil ?_
              refine .code ?_
              refine .cond rfl (fun c8 => ?_) (fun c8 => ?_)
              · have c8k := c8
                try simp only [decide_eq_true_eq, decide_eq_false_iff_not, Int.not_lt, Int.not_le, gt_iff_lt, ge_iff_le, Bool.or_eq_true, Bool.and_eq_true, Bool.or_eq_false_iff, Bool.and_eq_false_iff, Bool.not_eq_true', Bool.not_eq_false', Int.toNat_natCast, bne_iff_ne, beq_iff_eq, bne_eq_false_iff_eq, beq_eq_false_iff_ne, ne_eq] at c8
                refine .seq ?_
                refine Wk.rg [0, 1, 2] rfl rfl ?_
                refine bC rfl .no Fx.bp27_ .nil rfl ?_
                refine sw rfl (.u rfl) (.u rfl) rfl Fx.sz27 (.there (.there (.there (.there (.there (.there .here)))))) (by first | exact State.len | exact State.len.trans State.len.symm | exact Edit.len | exact Edit.len.trans Edit.len.symm | exact nine2_len | exact nine2_len.trans State.len.symm | rfl) (State.one') ?_
                refine asg rfl .no (.u rfl) ?_
                refine .nil ?_
                refine .code ?_
                refine .ret ?_
                refine We.fin0 Try.results20 (.cell rfl (fun w hw => run_loadVarN Fx.ag27 (RdN.own .here) ((by first | exact State.len | exact State.len.trans State.len.symm | exact Edit.len | exact Edit.len.trans Edit.len.symm | exact nine2_len | exact nine2_len.trans State.len.symm | rfl)) hw) (.tmp rfl .nil)) ?_
                exact ⟨State.zero, hd0, 180, .inr (.inl ⟨hri, ap_drop (fold_stop eg hL (dropF_miss (q := 2) hg5 (by assumption))), rfl, rfl⟩), rfl, rfl, st_zero⟩
              · have c8k := c8
                try simp only [decide_eq_true_eq, decide_eq_false_iff_not, Int.not_lt, Int.not_le, gt_iff_lt, ge_iff_le, Bool.or_eq_true, Bool.and_eq_true, Bool.or_eq_false_iff, Bool.and_eq_false_iff, Bool.not_eq_true', Bool.not_eq_false', Int.toNat_natCast, bne_iff_ne, beq_iff_eq, bne_eq_false_iff_eq, beq_eq_false_iff_ne, ne_eq] at c8
                refine .skip ?_
                refine .code ?_
                obtain ⟨kk, hk1, hk2⟩ : ∃ kk : Nat, idxI (isN g) (L 2) = (kk : Int) ∧ kk < (L 2).length := ⟨_, (idx_lt (by omega)).2, (idx_lt (by omega)).1⟩
                rw [hk1]
                refine Wk.rg [0, 1, 2, 3, 4, 5, 6, 7, 8, 9] rfl rfl ?_
                refine mv rfl .no (.u rfl) ?_
                refine mv rfl .no (.u rfl) ?_
                refine nc rfl .no (.u rfl) ?_
                refine ld rfl .no Fx.ag22 (.u rfl) (fun _ => Rd.own (.there (.there (.there (.there (.there .here))))) (by first | exact wap_f rfl | rfl)) ?_
                refine mv rfl .no (.u rfl) ?_
                refine mv rfl .no (.u rfl) ?_
                refine arn (((kk + 1) : Nat) : Int) rfl .no (.u rfl) (.u rfl) rfl (fun _ => by omega) (fun _ => wrap_i64 (by omega) (by omega)) ?_
                refine ka rfl (.inr rfl) Fx.go52 (Eva.cons (.u rfl) (Eva.cons (.u rfl) (Eva.cons (.u rfl) Eva.nil))) (mtk1 .here) (del_ok (L 2) w2 kk _ hk2 (by omega)) ?_
                rintro v91 G91 μ91 hG91 rfl
                have hs := hs.mono hG91
                have hea := hea.mono hG91
                have hed := hed.mono hG91
                have hbb9 := hbb9.mono hG91
                refine nc rfl .no (.u rfl) ?_
                refine s1v rfl (.u rfl) (.u rfl) .here Fx.sz22 (.there (.there (.there (.there (.there .here))))) (by show _ < 14; first | decide | omega) (rfl) ?_
                refine .nil ?_
                refine .blk ?_
                refine .code ?_
                refine Wk.rg [0, 1] rfl rfl ?_
                refine arn (((j + 1) : Nat) : Int) rfl .no (.u rfl) (.u rfl) rfl (fun _ => by omega) (fun _ => wrap_i64 (by omega) (by omega)) ?_
                refine mv rfl .no (.u rfl) ?_
                refine .nil ?_
                refine We.lpo (j + 1, w0, w1, v91, w3, w4, updL L 2 ((L 2).take kk ++ (L 2).drop (kk + 1))) ?_ ?_ ?_ ?_ ?_
                · exact (ESub.cons rfl (by first | rfl | exact evi (by omega)) (ESub.cons rfl rfl (ESub.cons rfl rfl (ESub.cons rfl rfl (ESub.cons rfl rfl (ESub.cons rfl rfl ESub.nil))))))
                · exact (MSub.cons (.there (.there .here)) rfl (MSub.cons (.there (.there .here)) rfl (MSub.cons (.there .here) rfl (MSub.cons (.there .here) rfl (MSub.cons (.there .here) rfl (MSub.cons .here rfl (MSub.cons .here rfl (MSub.cons .here rfl (MSub.cons .here rfl MSub.nil)))))))))
                · first | omega | (dsimp only; omega)
                · exact (((hGl1).trans hleb9).trans hG80).trans hG91
                · refine ⟨?_, ?_⟩
                  · (try dsimp only) <;> (first | omega | rfl | assumption | (simp; done))
                  · (try dsimp only) <;> (exact fold_step eg hL (dropF_hit hg5 (by decide) hk1))
            · refine wk_fz .here (by intro b hb; cases hb) ?_; intro Gfb9 hleb9 hbb9
              have hs := hs.mono hleb9
              have hea := hea.mono hleb9
              have hed := hed.mono hleb9
              refine Wk.rg [0, 1, 2, 3, 4] rfl rfl ?_
              refine fa rfl .no Fx.fo51_0 (.u rfl) ?_
              refine ld rfl .no Fx.ag5 (.u rfl) (fun _ => (hbb9.rd (by rfl)).rd) ?_
              refine fz rfl .no Fx.fo27_0 (.u rfl) ?_
              refine iA rfl .no Fx.ar23 (.u rfl) (.u rfl) (fun _ => by omega) (fun _ => by omega) ?_
              rw [show 0 + g.level.toNat * 1 = 3 from by rw [hg5]; rfl]
              refine asg rfl .no (.u rfl) ?_
              refine .nil ?_
              refine .code ?_
              refine .seq ?_
              have hll := dropL_len hri' hL (i := 3) (by decide)
              refine Wk.rg [0, 1, 2, 3, 4, 5] rfl rfl ?_
              refine mv rfl .no (.u rfl) ?_
              refine nc rfl .no (.u rfl) ?_
              refine ld rfl .no Fx.ag22 (.u rfl) (fun _ => Rd.own (.there (.there (.there (.there (.there .here))))) (by first | exact wap_f rfl | rfl)) ?_
              refine mf (vf := #[]) (vc := [Value.pointer (some ⟨b9, 0, none⟩)].toArray) rfl .no (fun a ha _ => by simp) (fun a ha _ => by simp [(Ev.u (c := true) rfl : Ev _ true (.tmp 9) _).eval ha rfl]) ?_
              refine ka rfl (.inr rfl) Fx.go50 (Eva.cons (.u rfl) (Eva.cons (.u rfl) Eva.nil)) (mtk1 (.there .here)) (Ct.lendS (Q := fun ν u => ν = [] ∧ u = .int .i64 (idxI (isN g) (L 3))) (fun _ _ => Meta.len _) (fun sh G2 hle hv hsl => by subst hv; exact idx_ok sh (L 3) G2 hsl (by omega) 51 Fx.go51 [.pointer (some ⟨b9, 0, none⟩)] (isN g) (fun G3 h3 m _ => same1_ok m g b9 G3 (hbb9.mono (hle.trans h3))))) ?_
              rintro _ G80 μ80 hG80 ⟨_, rfl, rfl, rfl⟩
              have hs := hs.mono hG80
              have hea := hea.mono hG80
              have hed := hed.mono hG80
              have hbb9 := hbb9.mono hG80
              refine asg rfl .no (.u rfl) ?_
              refine .nil ?_
              refine .code ?_
              refine .seq ?_
              refine .seq ?_
              refine Wk.rg [0, 1] rfl rfl ?_
              refine mv rfl .no (.u rfl) ?_
              refine cp rfl .no (.u rfl) (.u rfl) rfl ?_
              refine .nil ?_
              refine .code ?_
              refine .cond rfl (fun c9 => ?_) (fun c9 => ?_)
              · have c9k := c9
                try simp only [decide_eq_true_eq, decide_eq_false_iff_not, Int.not_lt, Int.not_le, gt_iff_lt, ge_iff_le, Bool.or_eq_true, Bool.and_eq_true, Bool.or_eq_false_iff, Bool.and_eq_false_iff, Bool.not_eq_true', Bool.not_eq_false', Int.toNat_natCast, bne_iff_ne, beq_iff_eq, bne_eq_false_iff_eq, beq_eq_false_iff_ne, ne_eq] at c9
                refine .seq ?_
                refine Wk.rg [0, 1, 2] rfl rfl ?_
                refine bC rfl .no Fx.bp27_ .nil rfl ?_
                refine sw rfl (.u rfl) (.u rfl) rfl Fx.sz27 (.there (.there (.there (.there (.there (.there .here)))))) (by first | exact State.len | exact State.len.trans State.len.symm | exact Edit.len | exact Edit.len.trans Edit.len.symm | exact nine2_len | exact nine2_len.trans State.len.symm | rfl) (State.one') ?_
                refine asg rfl .no (.u rfl) ?_
                refine .nil ?_
                refine .code ?_
                refine .ret ?_
                refine We.fin0 Try.results20 (.cell rfl (fun w hw => run_loadVarN Fx.ag27 (RdN.own .here) ((by first | exact State.len | exact State.len.trans State.len.symm | exact Edit.len | exact Edit.len.trans Edit.len.symm | exact nine2_len | exact nine2_len.trans State.len.symm | rfl)) hw) (.tmp rfl .nil)) ?_
                exact ⟨State.zero, hd0, 180, .inr (.inl ⟨hri, ap_drop (fold_stop eg hL (dropF_miss (q := 3) hg5 (by assumption))), rfl, rfl⟩), rfl, rfl, st_zero⟩
              · have c9k := c9
                try simp only [decide_eq_true_eq, decide_eq_false_iff_not, Int.not_lt, Int.not_le, gt_iff_lt, ge_iff_le, Bool.or_eq_true, Bool.and_eq_true, Bool.or_eq_false_iff, Bool.and_eq_false_iff, Bool.not_eq_true', Bool.not_eq_false', Int.toNat_natCast, bne_iff_ne, beq_iff_eq, bne_eq_false_iff_eq, beq_eq_false_iff_ne, ne_eq] at c9
                refine .skip ?_
                refine .code ?_
                obtain ⟨kk, hk1, hk2⟩ : ∃ kk : Nat, idxI (isN g) (L 3) = (kk : Int) ∧ kk < (L 3).length := ⟨_, (idx_lt (by omega)).2, (idx_lt (by omega)).1⟩
                rw [hk1]
                refine Wk.rg [0, 1, 2, 3, 4, 5, 6, 7, 8, 9] rfl rfl ?_
                refine mv rfl .no (.u rfl) ?_
                refine mv rfl .no (.u rfl) ?_
                refine nc rfl .no (.u rfl) ?_
                refine ld rfl .no Fx.ag22 (.u rfl) (fun _ => Rd.own (.there (.there (.there (.there (.there .here))))) (by first | exact wap_f rfl | rfl)) ?_
                refine mv rfl .no (.u rfl) ?_
                refine mv rfl .no (.u rfl) ?_
                refine arn (((kk + 1) : Nat) : Int) rfl .no (.u rfl) (.u rfl) rfl (fun _ => by omega) (fun _ => wrap_i64 (by omega) (by omega)) ?_
                refine ka rfl (.inr rfl) Fx.go52 (Eva.cons (.u rfl) (Eva.cons (.u rfl) (Eva.cons (.u rfl) Eva.nil))) (mtk1 .here) (del_ok (L 3) w3 kk _ hk2 (by omega)) ?_
                rintro v91 G91 μ91 hG91 rfl
                have hs := hs.mono hG91
                have hea := hea.mono hG91
                have hed := hed.mono hG91
                have hbb9 := hbb9.mono hG91
                refine nc rfl .no (.u rfl) ?_
                refine s1v rfl (.u rfl) (.u rfl) .here Fx.sz22 (.there (.there (.there (.there (.there .here))))) (by show _ < 14; first | decide | omega) (rfl) ?_
                refine .nil ?_
                refine .blk ?_
                refine .code ?_
                refine Wk.rg [0, 1] rfl rfl ?_
                refine arn (((j + 1) : Nat) : Int) rfl .no (.u rfl) (.u rfl) rfl (fun _ => by omega) (fun _ => wrap_i64 (by omega) (by omega)) ?_
                refine mv rfl .no (.u rfl) ?_
                refine .nil ?_
                refine We.lpo (j + 1, w0, w1, w2, v91, w4, updL L 3 ((L 3).take kk ++ (L 3).drop (kk + 1))) ?_ ?_ ?_ ?_ ?_
                · exact (ESub.cons rfl (by first | rfl | exact evi (by omega)) (ESub.cons rfl rfl (ESub.cons rfl rfl (ESub.cons rfl rfl (ESub.cons rfl rfl (ESub.cons rfl rfl ESub.nil))))))
                · exact (MSub.cons (.there (.there .here)) rfl (MSub.cons (.there .here) rfl (MSub.cons (.there .here) rfl (MSub.cons (.there .here) rfl (MSub.cons (.there .here) rfl (MSub.cons .here rfl (MSub.cons .here rfl (MSub.cons .here rfl (MSub.cons .here rfl MSub.nil)))))))))
                · first | omega | (dsimp only; omega)
                · exact (((hGl1).trans hleb9).trans hG80).trans hG91
                · refine ⟨?_, ?_⟩
                  · (try dsimp only) <;> (first | omega | rfl | assumption | (simp; done))
                  · (try dsimp only) <;> (exact fold_step eg hL (dropF_hit hg5 (by decide) hk1))
            · refine wk_fz .here (by intro b hb; cases hb) ?_; intro Gfb9 hleb9 hbb9
              have hs := hs.mono hleb9
              have hea := hea.mono hleb9
              have hed := hed.mono hleb9
              refine Wk.rg [0, 1, 2, 3, 4] rfl rfl ?_
              refine fa rfl .no Fx.fo51_0 (.u rfl) ?_
              refine ld rfl .no Fx.ag5 (.u rfl) (fun _ => (hbb9.rd (by rfl)).rd) ?_
              refine fz rfl .no Fx.fo27_0 (.u rfl) ?_
              refine iA rfl .no Fx.ar23 (.u rfl) (.u rfl) (fun _ => by omega) (fun _ => by omega) ?_
              rw [show 0 + g.level.toNat * 1 = 4 from by rw [hg5]; rfl]
              refine asg rfl .no (.u rfl) ?_
              refine .nil ?_
              refine .code ?_
              refine .seq ?_
              have hll := dropL_len hri' hL (i := 4) (by decide)
              refine Wk.rg [0, 1, 2, 3, 4, 5] rfl rfl ?_
              refine mv rfl .no (.u rfl) ?_
              refine nc rfl .no (.u rfl) ?_
              refine ld rfl .no Fx.ag22 (.u rfl) (fun _ => Rd.own (.there (.there (.there (.there (.there .here))))) (by first | exact wap_f rfl | rfl)) ?_
              refine mf (vf := #[]) (vc := [Value.pointer (some ⟨b9, 0, none⟩)].toArray) rfl .no (fun a ha _ => by simp) (fun a ha _ => by simp [(Ev.u (c := true) rfl : Ev _ true (.tmp 9) _).eval ha rfl]) ?_
              refine ka rfl (.inr rfl) Fx.go50 (Eva.cons (.u rfl) (Eva.cons (.u rfl) Eva.nil)) (mtk1 .here) (Ct.lendS (Q := fun ν u => ν = [] ∧ u = .int .i64 (idxI (isN g) (L 4))) (fun _ _ => Meta.len _) (fun sh G2 hle hv hsl => by subst hv; exact idx_ok sh (L 4) G2 hsl (by omega) 51 Fx.go51 [.pointer (some ⟨b9, 0, none⟩)] (isN g) (fun G3 h3 m _ => same1_ok m g b9 G3 (hbb9.mono (hle.trans h3))))) ?_
              rintro _ G80 μ80 hG80 ⟨_, rfl, rfl, rfl⟩
              have hs := hs.mono hG80
              have hea := hea.mono hG80
              have hed := hed.mono hG80
              have hbb9 := hbb9.mono hG80
              refine asg rfl .no (.u rfl) ?_
              refine .nil ?_
              refine .code ?_
              refine .seq ?_
              refine .seq ?_
              refine Wk.rg [0, 1] rfl rfl ?_
              refine mv rfl .no (.u rfl) ?_
              refine cp rfl .no (.u rfl) (.u rfl) rfl ?_
              refine .nil ?_
              refine .code ?_
              refine .cond rfl (fun c10 => ?_) (fun c10 => ?_)
              · have c10k := c10
                try simp only [decide_eq_true_eq, decide_eq_false_iff_not, Int.not_lt, Int.not_le, gt_iff_lt, ge_iff_le, Bool.or_eq_true, Bool.and_eq_true, Bool.or_eq_false_iff, Bool.and_eq_false_iff, Bool.not_eq_true', Bool.not_eq_false', Int.toNat_natCast, bne_iff_ne, beq_iff_eq, bne_eq_false_iff_eq, beq_eq_false_iff_ne, ne_eq] at c10
                refine .seq ?_
                refine Wk.rg [0, 1, 2] rfl rfl ?_
                refine bC rfl .no Fx.bp27_ .nil rfl ?_
                refine sw rfl (.u rfl) (.u rfl) rfl Fx.sz27 (.there (.there (.there (.there (.there (.there .here)))))) (by first | exact State.len | exact State.len.trans State.len.symm | exact Edit.len | exact Edit.len.trans Edit.len.symm | exact nine2_len | exact nine2_len.trans State.len.symm | rfl) (State.one') ?_
                refine asg rfl .no (.u rfl) ?_
                refine .nil ?_
                refine .code ?_
                refine .ret ?_
                refine We.fin0 Try.results20 (.cell rfl (fun w hw => run_loadVarN Fx.ag27 (RdN.own .here) ((by first | exact State.len | exact State.len.trans State.len.symm | exact Edit.len | exact Edit.len.trans Edit.len.symm | exact nine2_len | exact nine2_len.trans State.len.symm | rfl)) hw) (.tmp rfl .nil)) ?_
                exact ⟨State.zero, hd0, 180, .inr (.inl ⟨hri, ap_drop (fold_stop eg hL (dropF_miss (q := 4) hg5 (by assumption))), rfl, rfl⟩), rfl, rfl, st_zero⟩
              · have c10k := c10
                try simp only [decide_eq_true_eq, decide_eq_false_iff_not, Int.not_lt, Int.not_le, gt_iff_lt, ge_iff_le, Bool.or_eq_true, Bool.and_eq_true, Bool.or_eq_false_iff, Bool.and_eq_false_iff, Bool.not_eq_true', Bool.not_eq_false', Int.toNat_natCast, bne_iff_ne, beq_iff_eq, bne_eq_false_iff_eq, beq_eq_false_iff_ne, ne_eq] at c10
                refine .skip ?_
                refine .code ?_
                obtain ⟨kk, hk1, hk2⟩ : ∃ kk : Nat, idxI (isN g) (L 4) = (kk : Int) ∧ kk < (L 4).length := ⟨_, (idx_lt (by omega)).2, (idx_lt (by omega)).1⟩
                rw [hk1]
                refine Wk.rg [0, 1, 2, 3, 4, 5, 6, 7, 8, 9] rfl rfl ?_
                refine mv rfl .no (.u rfl) ?_
                refine mv rfl .no (.u rfl) ?_
                refine nc rfl .no (.u rfl) ?_
                refine ld rfl .no Fx.ag22 (.u rfl) (fun _ => Rd.own (.there (.there (.there (.there (.there .here))))) (by first | exact wap_f rfl | rfl)) ?_
                refine mv rfl .no (.u rfl) ?_
                refine mv rfl .no (.u rfl) ?_
                refine arn (((kk + 1) : Nat) : Int) rfl .no (.u rfl) (.u rfl) rfl (fun _ => by omega) (fun _ => wrap_i64 (by omega) (by omega)) ?_
                refine ka rfl (.inr rfl) Fx.go52 (Eva.cons (.u rfl) (Eva.cons (.u rfl) (Eva.cons (.u rfl) Eva.nil))) (mtk1 .here) (del_ok (L 4) w4 kk _ hk2 (by omega)) ?_
                rintro v91 G91 μ91 hG91 rfl
                have hs := hs.mono hG91
                have hea := hea.mono hG91
                have hed := hed.mono hG91
                have hbb9 := hbb9.mono hG91
                refine nc rfl .no (.u rfl) ?_
                refine s1v rfl (.u rfl) (.u rfl) .here Fx.sz22 (.there (.there (.there (.there (.there .here))))) (by show _ < 14; first | decide | omega) (rfl) ?_
                refine .nil ?_
                refine .blk ?_
                refine .code ?_
                refine Wk.rg [0, 1] rfl rfl ?_
                refine arn (((j + 1) : Nat) : Int) rfl .no (.u rfl) (.u rfl) rfl (fun _ => by omega) (fun _ => wrap_i64 (by omega) (by omega)) ?_
                refine mv rfl .no (.u rfl) ?_
                refine .nil ?_
                refine We.lpo (j + 1, w0, w1, w2, w3, v91, updL L 4 ((L 4).take kk ++ (L 4).drop (kk + 1))) ?_ ?_ ?_ ?_ ?_
                · exact (ESub.cons rfl (by first | rfl | exact evi (by omega)) (ESub.cons rfl rfl (ESub.cons rfl rfl (ESub.cons rfl rfl (ESub.cons rfl rfl (ESub.cons rfl rfl ESub.nil))))))
                · exact (MSub.cons (.there .here) rfl (MSub.cons (.there .here) rfl (MSub.cons (.there .here) rfl (MSub.cons (.there .here) rfl (MSub.cons (.there .here) rfl (MSub.cons .here rfl (MSub.cons .here rfl (MSub.cons .here rfl (MSub.cons .here rfl MSub.nil)))))))))
                · first | omega | (dsimp only; omega)
                · exact (((hGl1).trans hleb9).trans hG80).trans hG91
                · refine ⟨?_, ?_⟩
                  · (try dsimp only) <;> (first | omega | rfl | assumption | (simp; done))
                  · (try dsimp only) <;> (exact fold_step eg hL (dropF_hit hg5 (by decide) hk1))
        · have c4k := c4
          try simp only [decide_eq_true_eq, decide_eq_false_iff_not, Int.not_lt, Int.not_le, gt_iff_lt, ge_iff_le, Bool.or_eq_true, Bool.and_eq_true, Bool.or_eq_false_iff, Bool.and_eq_false_iff, Bool.not_eq_true', Bool.not_eq_false', Int.toNat_natCast, bne_iff_ne, beq_iff_eq, bne_eq_false_iff_eq, beq_eq_false_iff_ne, ne_eq] at c4
          refine .exit ?_
          refine .xcode ?_
          refine .xlp ?_
          refine .xblk ?_
          refine .code ?_
          refine .seq ?_
          refine .seq ?_
          refine Wk.rg [0, 1, 2, 3] rfl rfl ?_
          refine fz rfl .no Fx.fo32_5 (.u rfl) ?_
          refine ld rfl .no Fx.ag22 (.u rfl) (fun _ => Rd.own (.there (.there (.there (.there (.there (.there (.there .here))))))) (by first | exact wap_f rfl | rfl)) ?_
          refine ln rfl .no Fx.sn22 (.u rfl) ?_
          refine mv rfl .no (.u rfl) ?_
          refine .nil ?_
          refine .code ?_
          refine .block ?_
          obtain rfl : j = e.drop.length := by omega
          rw [List.take_length] at hL
          refine Wk.lop (α := Nat × Value × Value × Value × Value × Value × Lvs) (fun gh => [(97, true, .int .i64 (gh.1 : Int))]) (fun gh => [rS 40 Meta.cells gh.2.2.2.2.2.1 48 (gh.2.2.2.2.2.2 4), rS 40 Meta.cells gh.2.2.2.2.1 48 (gh.2.2.2.2.2.2 3), rS 40 Meta.cells gh.2.2.2.1 48 (gh.2.2.2.2.2.2 2), rS 40 Meta.cells gh.2.2.1 48 (gh.2.2.2.2.2.2 1), rS 40 Meta.cells gh.2.1 48 (gh.2.2.2.2.2.2 0), .blk b6 (cl (xC gh.2.1 gh.2.2.1 gh.2.2.2.1 gh.2.2.2.2.1 gh.2.2.2.2.2.1 e) 27)])
            (fun gh Gl => (gh.1 ≤ e.add.length) ∧ (foldO addF (e.add.take gh.1) L = some gh.2.2.2.2.2.2)) (fun gh => e.add.length - gh.1) (0, w0, w1, w2, w3, w4, L) [(4, true, _), (6, true, _), (95, true, _), (96, true, _)] [_, _, _]
            (ESub.cons rfl (by first | rfl | exact evi (by omega)) (ESub.cons rfl rfl (ESub.cons rfl rfl (ESub.cons rfl rfl (ESub.cons rfl rfl ESub.nil)))))
            (MSub.cons .here rfl (MSub.cons .here rfl (MSub.cons .here rfl (MSub.cons .here rfl (MSub.cons .here rfl (MSub.cons .here rfl (MSub.cons .here rfl (MSub.cons .here rfl (MSub.cons .here rfl MSub.nil))))))))) ?_ ?_
          · refine ⟨?_, ?_⟩
            · (try dsimp only) <;> (first | omega | rfl | assumption | (simp; done))
            · (try dsimp only) <;> (rfl)
          intro gh N2 Gl2 hN2 hGl2 hF2
          obtain ⟨j, w0, w1, w2, w3, w4, L2⟩ := gh; dsimp only at hF2 hN2 ⊢
          obtain ⟨hj, hA⟩ := hF2
          have hs := hs.mono hGl2
          have hea := hea.mono hGl2
          have hed := hed.mono hGl2
          refine .seq ?_
          refine Wk.rg [0] rfl rfl ?_
          refine cp rfl .no (.u rfl) (.u rfl) rfl ?_
          refine .nil ?_
          refine .code ?_
          refine .seq ?_
          refine .cond rfl (fun c11 => ?_) (fun c11 => ?_)
          · have c11k := c11
            try simp only [decide_eq_true_eq, decide_eq_false_iff_not, Int.not_lt, Int.not_le, gt_iff_lt, ge_iff_le, Bool.or_eq_true, Bool.and_eq_true, Bool.or_eq_false_iff, Bool.and_eq_false_iff, Bool.not_eq_true', Bool.not_eq_false', Int.toNat_natCast, bne_iff_ne, beq_iff_eq, bne_eq_false_iff_eq, beq_eq_false_iff_ne, ne_eq] at c11
            refine .skip ?_
            refine .code ?_
            refine .seq ?_
            refine .block ?_
            refine .seq ?_
            refine Wk.rg [0, 1, 2, 3] rfl rfl ?_
            obtain ⟨m, em⟩ := getx (k := j) (xs := e.add) (by omega)
            have hwm := (hE.wf.add m (List.mem_of_getElem? em)).level
            refine ih rfl .no Fx.se22 (.u rfl) (.u rfl) (fun _ => by omega) (fun _ => by omega) (fun _ => hea.nn (k := j) (by first | omega | (simp only [Bool.and_eq_true, decide_eq_true_eq] at hc; omega) | (simp only [List.length_cons, List.length_nil]; omega))) ?_
            refine lA rfl .no Fx.ag48 (.u rfl) (fun _ => (hea.at (by omega) em).rd) (fun _ => Meta.len _) ?_
            refine al rfl Fx.zq48 ?_; intro b13
            refine sw rfl (.u rfl) (.u rfl) rfl Fx.sz48 .here rfl (Meta.one _) ?_
            refine .nil ?_
            refine .code ?_
            refine .seq ?_
            refine .seq ?_
            refine Wk.rg [0, 1, 2] rfl rfl ?_
            refine fz rfl .no Fx.fo48_0 (.u rfl) ?_
            refine ld rfl .no Fx.ag5 (.u rfl) (fun _ => Rd.own .here (by first | exact wap_f rfl | rfl)) ?_
            refine cp rfl .no (.u rfl) (.u rfl) rfl ?_
            refine .nil ?_
            refine .code ?_
            refine .cond rfl (fun c12 => ?_) (fun c12 => ?_)
            · have c12k := c12
              try simp only [decide_eq_true_eq, decide_eq_false_iff_not, Int.not_lt, Int.not_le, gt_iff_lt, ge_iff_le, Bool.or_eq_true, Bool.and_eq_true, Bool.or_eq_false_iff, Bool.and_eq_false_iff, Bool.not_eq_true', Bool.not_eq_false', Int.toNat_natCast, bne_iff_ne, beq_iff_eq, bne_eq_false_iff_eq, beq_eq_false_iff_ne, ne_eq] at c12
              refine .seq ?_
              refine Wk.rg [0, 1, 2] rfl rfl ?_
              refine bC rfl .no Fx.bp27_ .nil rfl ?_
              refine sw rfl (.u rfl) (.u rfl) rfl Fx.sz27 (.there (.there (.there (.there (.there (.there (.there .here))))))) (by first | exact State.len | exact State.len.trans State.len.symm | exact Edit.len | exact Edit.len.trans Edit.len.symm | exact nine2_len | exact nine2_len.trans State.len.symm | rfl) (State.one') ?_
              refine asg rfl .no (.u rfl) ?_
              refine .nil ?_
              refine .code ?_
              refine .ret ?_
              refine We.fin0 Try.results20 (.cell rfl (fun w hw => run_loadVarN Fx.ag27 (RdN.own .here) ((by first | exact State.len | exact State.len.trans State.len.symm | exact Edit.len | exact Edit.len.trans Edit.len.symm | exact nine2_len | exact nine2_len.trans State.len.symm | rfl)) hw) (.tmp rfl .nil)) ?_
              exact ⟨State.zero, hd0, 180, .inr (.inl ⟨hri, ap_add hL (fold_stop em hA (addF_high (by omega))), rfl, rfl⟩), rfl, rfl, st_zero⟩
            · have c12k := c12
              try simp only [decide_eq_true_eq, decide_eq_false_iff_not, Int.not_lt, Int.not_le, gt_iff_lt, ge_iff_le, Bool.or_eq_true, Bool.and_eq_true, Bool.or_eq_false_iff, Bool.and_eq_false_iff, Bool.not_eq_true', Bool.not_eq_false', Int.toNat_natCast, bne_iff_ne, beq_iff_eq, bne_eq_false_iff_eq, beq_eq_false_iff_ne, ne_eq] at c12
              refine .skip ?_
              refine .code ?_
              have hm5 : m.level = 0 ∨ m.level = 1 ∨ m.level = 2 ∨ m.level = 3 ∨ m.level = 4 := by omega
              rcases hm5 with hm5 | hm5 | hm5 | hm5 | hm5
              · refine Wk.mix ⟨false, false⟩ Fx.mix (by kernel_rfl) ?_
                have hll := addL_len (N := 1024) hA (i := 0) (dropL_len hri' hL (by decide))
                have htk := List.length_take_le j e.add
                refine Wt.one 0 (by kernel_rfl) ?_
                refine fz rfl .no Fx.fo48_0 (.u rfl) ?_
                refine .nil ?_
                refine Wt.one 2 (by kernel_rfl) ?_
                refine fz rfl .no Fx.fo48_0 (.u rfl) ?_
                refine .nil ?_
                refine Wt.one 3 (by kernel_rfl) ?_
                refine ld rfl .no Fx.ag5 (.u rfl) (fun _ => Rd.own .here (by first | exact wap_f rfl | rfl)) ?_
                refine .nil ?_
                refine Wt.one 4 (by kernel_rfl) ?_
                refine fz rfl .no Fx.fo27_0 (.u rfl) ?_
                refine .nil ?_
                refine Wt.one 5 (by kernel_rfl) ?_
                refine iA rfl .no Fx.ar23 (.u rfl) (.u rfl) (fun _ => by omega) (fun _ => by omega) ?_
                rw [show 0 + m.level.toNat * 1 = 0 from by rw [hm5]; rfl]
                refine .nil ?_
                refine Wt.one 6 (by kernel_rfl) ?_
                refine ld rfl .no Fx.ag22 (.u rfl) (fun _ => Rd.own (.there (.there (.there (.there (.there (.there .here)))))) (by first | exact wap_f rfl | rfl)) ?_
                refine .nil ?_
                refine Wt.one 7 (by kernel_rfl) ?_
                refine lA rfl .no Fx.ag48 (.u rfl) (fun _ => RdN.own .here) (fun _ => Meta.len _) ?_
                refine .nil ?_
                refine Wt.one 10 (by kernel_rfl) ?_
                refine fz rfl .no Fx.fo27_0 (.u rfl) ?_
                refine .nil ?_
                refine Wt.b2 1 8 (by kernel_rfl) ?_ ?_
                · refine ld rfl .no Fx.ag5 (.u rfl) (fun _ => Rd.own .here (by first | exact wap_f rfl | rfl)) ?_
                  refine .nil ?_
                  refine Wt.b1 8 (by kernel_rfl) ?_
                  refine Go.Tan.b1 rfl Fx.se22 Fx.zw48 (.u rfl) rfl rfl (by decide) ?_; intro b113
                  refine .nil ?_
                  refine Wt.b1 9 (by kernel_rfl) ?_
                  refine apS (xs := (L2 0)) (m) rfl Fx.se22 Fx.zw48 rfl (.u rfl) (.u rfl) (.there (.there (.there (.there (.there (.there .here)))))) .here (Meta.len _) (Meta.one _) (by omega) (by unfold maxLen; omega) ?_; intro v114 ov114
                  refine .nil ?_
                  refine Wt.one 11 (by kernel_rfl) ?_
                  refine iA rfl .no Fx.ar23 (.u rfl) (.u rfl) (fun _ => by omega) (fun _ => by omega) ?_
                  rw [show 0 + m.level.toNat * 1 = 0 from by rw [hm5]; rfl]
                  refine .nil ?_
                  refine Wt.b1 12 (by kernel_rfl) ?_
                  refine s1v rfl (.u rfl) (.u rfl) .here Fx.sz22 (.there (.there (.there (.there (.there (.there (.there .here))))))) (by show _ < 14; first | decide | omega) (rfl) ?_
                  refine .nil ?_
                  refine Wt.last (by kernel_rfl) ?_
                  refine .blk ?_
                  refine .code ?_
                  refine Wk.rg [0, 1] rfl rfl ?_
                  refine arn (((j + 1) : Nat) : Int) rfl .no (.u rfl) (.u rfl) rfl (fun _ => by omega) (fun _ => wrap_i64 (by omega) (by omega)) ?_
                  refine mv rfl .no (.u rfl) ?_
                  refine .nil ?_
                  refine We.lpo (j + 1, v114, w1, w2, w3, w4, updL L2 0 (L2 0 ++ [m])) ?_ ?_ ?_ ?_ ?_
                  · exact (ESub.cons rfl (by first | rfl | exact evi (by omega)) (ESub.cons rfl rfl (ESub.cons rfl rfl (ESub.cons rfl rfl (ESub.cons rfl rfl ESub.nil)))))
                  · exact (MSub.cons (.there (.there (.there (.there .here)))) rfl (MSub.cons (.there (.there (.there (.there .here)))) rfl (MSub.cons (.there (.there (.there (.there .here)))) rfl (MSub.cons (.there (.there (.there (.there .here)))) rfl (MSub.cons (.there .here) rfl (MSub.cons .here rfl (MSub.cons (.there (.there .here)) rfl (MSub.cons (.there (.there .here)) rfl (MSub.cons (.there (.there .here)) rfl MSub.nil)))))))))
                  · first | omega | (dsimp only; omega)
                  · exact hGl2
                  · refine ⟨?_, ?_⟩
                    · (try dsimp only) <;> (first | omega | rfl | assumption | (simp; done))
                    · (try dsimp only) <;> (exact fold_step em hA (addF_hit hm5 (by decide)))
                · refine Go.Tan.b1 rfl Fx.se22 Fx.zw48 (.u rfl) rfl rfl (by decide) ?_; intro b113
                  refine .nil ?_
                  refine Wt.b2 1 9 (by kernel_rfl) ?_ ?_
                  · refine ld rfl .no Fx.ag5 (.u rfl) (fun _ => Rd.own (.there .here) (by first | exact wap_f rfl | rfl)) ?_
                    refine .nil ?_
                    refine Wt.b1 9 (by kernel_rfl) ?_
                    refine apS (xs := (L2 0)) (m) rfl Fx.se22 Fx.zw48 rfl (.u rfl) (.u rfl) (.there (.there (.there (.there (.there (.there .here)))))) .here (Meta.len _) (Meta.one _) (by omega) (by unfold maxLen; omega) ?_; intro v114 ov114
                    refine .nil ?_
                    refine Wt.one 11 (by kernel_rfl) ?_
                    refine iA rfl .no Fx.ar23 (.u rfl) (.u rfl) (fun _ => by omega) (fun _ => by omega) ?_
                    rw [show 0 + m.level.toNat * 1 = 0 from by rw [hm5]; rfl]
                    refine .nil ?_
                    refine Wt.b1 12 (by kernel_rfl) ?_
                    refine s1v rfl (.u rfl) (.u rfl) .here Fx.sz22 (.there (.there (.there (.there (.there (.there (.there .here))))))) (by show _ < 14; first | decide | omega) (rfl) ?_
                    refine .nil ?_
                    refine Wt.last (by kernel_rfl) ?_
                    refine .blk ?_
                    refine .code ?_
                    refine Wk.rg [0, 1] rfl rfl ?_
                    refine arn (((j + 1) : Nat) : Int) rfl .no (.u rfl) (.u rfl) rfl (fun _ => by omega) (fun _ => wrap_i64 (by omega) (by omega)) ?_
                    refine mv rfl .no (.u rfl) ?_
                    refine .nil ?_
                    refine We.lpo (j + 1, v114, w1, w2, w3, w4, updL L2 0 (L2 0 ++ [m])) ?_ ?_ ?_ ?_ ?_
                    · exact (ESub.cons rfl (by first | rfl | exact evi (by omega)) (ESub.cons rfl rfl (ESub.cons rfl rfl (ESub.cons rfl rfl (ESub.cons rfl rfl ESub.nil)))))
                    · exact (MSub.cons (.there (.there (.there (.there .here)))) rfl (MSub.cons (.there (.there (.there (.there .here)))) rfl (MSub.cons (.there (.there (.there (.there .here)))) rfl (MSub.cons (.there (.there (.there (.there .here)))) rfl (MSub.cons (.there .here) rfl (MSub.cons .here rfl (MSub.cons (.there (.there .here)) rfl (MSub.cons (.there (.there .here)) rfl (MSub.cons (.there (.there .here)) rfl MSub.nil)))))))))
                    · first | omega | (dsimp only; omega)
                    · exact hGl2
                    · refine ⟨?_, ?_⟩
                      · (try dsimp only) <;> (first | omega | rfl | assumption | (simp; done))
                      · (try dsimp only) <;> (exact fold_step em hA (addF_hit hm5 (by decide)))
                  · refine apS (xs := (L2 0)) (m) rfl Fx.se22 Fx.zw48 rfl (.u rfl) (.u rfl) (.there (.there (.there (.there (.there (.there .here)))))) .here (Meta.len _) (Meta.one _) (by omega) (by unfold maxLen; omega) ?_; intro v114 ov114
                    refine .nil ?_
                    refine Wt.one 1 (by kernel_rfl) ?_
                    refine ld rfl .no Fx.ag5 (.u rfl) (fun _ => Rd.own (.there (.there .here)) (by first | exact wap_f rfl | rfl)) ?_
                    refine .nil ?_
                    refine Wt.one 11 (by kernel_rfl) ?_
                    refine iA rfl .no Fx.ar23 (.u rfl) (.u rfl) (fun _ => by omega) (fun _ => by omega) ?_
                    rw [show 0 + m.level.toNat * 1 = 0 from by rw [hm5]; rfl]
                    refine .nil ?_
                    refine Wt.b1 12 (by kernel_rfl) ?_
                    refine s1v rfl (.u rfl) (.u rfl) .here Fx.sz22 (.there (.there (.there (.there (.there (.there (.there .here))))))) (by show _ < 14; first | decide | omega) (rfl) ?_
                    refine .nil ?_
                    refine Wt.last (by kernel_rfl) ?_
                    refine .blk ?_
                    refine .code ?_
                    refine Wk.rg [0, 1] rfl rfl ?_
                    refine arn (((j + 1) : Nat) : Int) rfl .no (.u rfl) (.u rfl) rfl (fun _ => by omega) (fun _ => wrap_i64 (by omega) (by omega)) ?_
                    refine mv rfl .no (.u rfl) ?_
                    refine .nil ?_
                    refine We.lpo (j + 1, v114, w1, w2, w3, w4, updL L2 0 (L2 0 ++ [m])) ?_ ?_ ?_ ?_ ?_
                    · exact (ESub.cons rfl (by first | rfl | exact evi (by omega)) (ESub.cons rfl rfl (ESub.cons rfl rfl (ESub.cons rfl rfl (ESub.cons rfl rfl ESub.nil)))))
                    · exact (MSub.cons (.there (.there (.there (.there .here)))) rfl (MSub.cons (.there (.there (.there (.there .here)))) rfl (MSub.cons (.there (.there (.there (.there .here)))) rfl (MSub.cons (.there (.there (.there (.there .here)))) rfl (MSub.cons (.there .here) rfl (MSub.cons .here rfl (MSub.cons (.there (.there .here)) rfl (MSub.cons (.there (.there .here)) rfl (MSub.cons (.there (.there .here)) rfl MSub.nil)))))))))
                    · first | omega | (dsimp only; omega)
                    · exact hGl2
                    · refine ⟨?_, ?_⟩
                      · (try dsimp only) <;> (first | omega | rfl | assumption | (simp; done))
                      · (try dsimp only) <;> (exact fold_step em hA (addF_hit hm5 (by decide)))
              · refine Wk.mix ⟨false, false⟩ Fx.mix (by kernel_rfl) ?_
                have hll := addL_len (N := 1024) hA (i := 1) (dropL_len hri' hL (by decide))
                have htk := List.length_take_le j e.add
                refine Wt.one 0 (by kernel_rfl) ?_
                refine fz rfl .no Fx.fo48_0 (.u rfl) ?_
                refine .nil ?_
                refine Wt.one 2 (by kernel_rfl) ?_
                refine fz rfl .no Fx.fo48_0 (.u rfl) ?_
                refine .nil ?_
                refine Wt.one 3 (by kernel_rfl) ?_
                refine ld rfl .no Fx.ag5 (.u rfl) (fun _ => Rd.own .here (by first | exact wap_f rfl | rfl)) ?_
                refine .nil ?_
                refine Wt.one 4 (by kernel_rfl) ?_
                refine fz rfl .no Fx.fo27_0 (.u rfl) ?_
                refine .nil ?_
                refine Wt.one 5 (by kernel_rfl) ?_
                refine iA rfl .no Fx.ar23 (.u rfl) (.u rfl) (fun _ => by omega) (fun _ => by omega) ?_
                rw [show 0 + m.level.toNat * 1 = 1 from by rw [hm5]; rfl]
                refine .nil ?_
                refine Wt.one 6 (by kernel_rfl) ?_
                refine ld rfl .no Fx.ag22 (.u rfl) (fun _ => Rd.own (.there (.there (.there (.there (.there (.there .here)))))) (by first | exact wap_f rfl | rfl)) ?_
                refine .nil ?_
                refine Wt.one 7 (by kernel_rfl) ?_
                refine lA rfl .no Fx.ag48 (.u rfl) (fun _ => RdN.own .here) (fun _ => Meta.len _) ?_
                refine .nil ?_
                refine Wt.one 10 (by kernel_rfl) ?_
                refine fz rfl .no Fx.fo27_0 (.u rfl) ?_
                refine .nil ?_
                refine Wt.b2 1 8 (by kernel_rfl) ?_ ?_
                · refine ld rfl .no Fx.ag5 (.u rfl) (fun _ => Rd.own .here (by first | exact wap_f rfl | rfl)) ?_
                  refine .nil ?_
                  refine Wt.b1 8 (by kernel_rfl) ?_
                  refine Go.Tan.b1 rfl Fx.se22 Fx.zw48 (.u rfl) rfl rfl (by decide) ?_; intro b113
                  refine .nil ?_
                  refine Wt.b1 9 (by kernel_rfl) ?_
                  refine apS (xs := (L2 1)) (m) rfl Fx.se22 Fx.zw48 rfl (.u rfl) (.u rfl) (.there (.there (.there (.there (.there .here))))) .here (Meta.len _) (Meta.one _) (by omega) (by unfold maxLen; omega) ?_; intro v114 ov114
                  refine .nil ?_
                  refine Wt.one 11 (by kernel_rfl) ?_
                  refine iA rfl .no Fx.ar23 (.u rfl) (.u rfl) (fun _ => by omega) (fun _ => by omega) ?_
                  rw [show 0 + m.level.toNat * 1 = 1 from by rw [hm5]; rfl]
                  refine .nil ?_
                  refine Wt.b1 12 (by kernel_rfl) ?_
                  refine s1v rfl (.u rfl) (.u rfl) .here Fx.sz22 (.there (.there (.there (.there (.there (.there (.there .here))))))) (by show _ < 14; first | decide | omega) (rfl) ?_
                  refine .nil ?_
                  refine Wt.last (by kernel_rfl) ?_
                  refine .blk ?_
                  refine .code ?_
                  refine Wk.rg [0, 1] rfl rfl ?_
                  refine arn (((j + 1) : Nat) : Int) rfl .no (.u rfl) (.u rfl) rfl (fun _ => by omega) (fun _ => wrap_i64 (by omega) (by omega)) ?_
                  refine mv rfl .no (.u rfl) ?_
                  refine .nil ?_
                  refine We.lpo (j + 1, w0, v114, w2, w3, w4, updL L2 1 (L2 1 ++ [m])) ?_ ?_ ?_ ?_ ?_
                  · exact (ESub.cons rfl (by first | rfl | exact evi (by omega)) (ESub.cons rfl rfl (ESub.cons rfl rfl (ESub.cons rfl rfl (ESub.cons rfl rfl ESub.nil)))))
                  · exact (MSub.cons (.there (.there (.there (.there .here)))) rfl (MSub.cons (.there (.there (.there (.there .here)))) rfl (MSub.cons (.there (.there (.there (.there .here)))) rfl (MSub.cons (.there .here) rfl (MSub.cons (.there (.there (.there .here))) rfl (MSub.cons .here rfl (MSub.cons (.there (.there .here)) rfl (MSub.cons (.there (.there .here)) rfl (MSub.cons (.there (.there .here)) rfl MSub.nil)))))))))
                  · first | omega | (dsimp only; omega)
                  · exact hGl2
                  · refine ⟨?_, ?_⟩
                    · (try dsimp only) <;> (first | omega | rfl | assumption | (simp; done))
                    · (try dsimp only) <;> (exact fold_step em hA (addF_hit hm5 (by decide)))
                · refine Go.Tan.b1 rfl Fx.se22 Fx.zw48 (.u rfl) rfl rfl (by decide) ?_; intro b113
                  refine .nil ?_
                  refine Wt.b2 1 9 (by kernel_rfl) ?_ ?_
                  · refine ld rfl .no Fx.ag5 (.u rfl) (fun _ => Rd.own (.there .here) (by first | exact wap_f rfl | rfl)) ?_
                    refine .nil ?_
                    refine Wt.b1 9 (by kernel_rfl) ?_
                    refine apS (xs := (L2 1)) (m) rfl Fx.se22 Fx.zw48 rfl (.u rfl) (.u rfl) (.there (.there (.there (.there (.there .here))))) .here (Meta.len _) (Meta.one _) (by omega) (by unfold maxLen; omega) ?_; intro v114 ov114
                    refine .nil ?_
                    refine Wt.one 11 (by kernel_rfl) ?_
                    refine iA rfl .no Fx.ar23 (.u rfl) (.u rfl) (fun _ => by omega) (fun _ => by omega) ?_
                    rw [show 0 + m.level.toNat * 1 = 1 from by rw [hm5]; rfl]
                    refine .nil ?_
                    refine Wt.b1 12 (by kernel_rfl) ?_
                    refine s1v rfl (.u rfl) (.u rfl) .here Fx.sz22 (.there (.there (.there (.there (.there (.there (.there .here))))))) (by show _ < 14; first | decide | omega) (rfl) ?_
                    refine .nil ?_
                    refine Wt.last (by kernel_rfl) ?_
                    refine .blk ?_
                    refine .code ?_
                    refine Wk.rg [0, 1] rfl rfl ?_
                    refine arn (((j + 1) : Nat) : Int) rfl .no (.u rfl) (.u rfl) rfl (fun _ => by omega) (fun _ => wrap_i64 (by omega) (by omega)) ?_
                    refine mv rfl .no (.u rfl) ?_
                    refine .nil ?_
                    refine We.lpo (j + 1, w0, v114, w2, w3, w4, updL L2 1 (L2 1 ++ [m])) ?_ ?_ ?_ ?_ ?_
                    · exact (ESub.cons rfl (by first | rfl | exact evi (by omega)) (ESub.cons rfl rfl (ESub.cons rfl rfl (ESub.cons rfl rfl (ESub.cons rfl rfl ESub.nil)))))
                    · exact (MSub.cons (.there (.there (.there (.there .here)))) rfl (MSub.cons (.there (.there (.there (.there .here)))) rfl (MSub.cons (.there (.there (.there (.there .here)))) rfl (MSub.cons (.there .here) rfl (MSub.cons (.there (.there (.there .here))) rfl (MSub.cons .here rfl (MSub.cons (.there (.there .here)) rfl (MSub.cons (.there (.there .here)) rfl (MSub.cons (.there (.there .here)) rfl MSub.nil)))))))))
                    · first | omega | (dsimp only; omega)
                    · exact hGl2
                    · refine ⟨?_, ?_⟩
                      · (try dsimp only) <;> (first | omega | rfl | assumption | (simp; done))
                      · (try dsimp only) <;> (exact fold_step em hA (addF_hit hm5 (by decide)))
                  · refine apS (xs := (L2 1)) (m) rfl Fx.se22 Fx.zw48 rfl (.u rfl) (.u rfl) (.there (.there (.there (.there (.there .here))))) .here (Meta.len _) (Meta.one _) (by omega) (by unfold maxLen; omega) ?_; intro v114 ov114
                    refine .nil ?_
                    refine Wt.one 1 (by kernel_rfl) ?_
                    refine ld rfl .no Fx.ag5 (.u rfl) (fun _ => Rd.own (.there (.there .here)) (by first | exact wap_f rfl | rfl)) ?_
                    refine .nil ?_
                    refine Wt.one 11 (by kernel_rfl) ?_
                    refine iA rfl .no Fx.ar23 (.u rfl) (.u rfl) (fun _ => by omega) (fun _ => by omega) ?_
                    rw [show 0 + m.level.toNat * 1 = 1 from by rw [hm5]; rfl]
                    refine .nil ?_
                    refine Wt.b1 12 (by kernel_rfl) ?_
                    refine s1v rfl (.u rfl) (.u rfl) .here Fx.sz22 (.there (.there (.there (.there (.there (.there (.there .here))))))) (by show _ < 14; first | decide | omega) (rfl) ?_
                    refine .nil ?_
                    refine Wt.last (by kernel_rfl) ?_
                    refine .blk ?_
                    refine .code ?_
                    refine Wk.rg [0, 1] rfl rfl ?_
                    refine arn (((j + 1) : Nat) : Int) rfl .no (.u rfl) (.u rfl) rfl (fun _ => by omega) (fun _ => wrap_i64 (by omega) (by omega)) ?_
                    refine mv rfl .no (.u rfl) ?_
                    refine .nil ?_
                    refine We.lpo (j + 1, w0, v114, w2, w3, w4, updL L2 1 (L2 1 ++ [m])) ?_ ?_ ?_ ?_ ?_
                    · exact (ESub.cons rfl (by first | rfl | exact evi (by omega)) (ESub.cons rfl rfl (ESub.cons rfl rfl (ESub.cons rfl rfl (ESub.cons rfl rfl ESub.nil)))))
                    · exact (MSub.cons (.there (.there (.there (.there .here)))) rfl (MSub.cons (.there (.there (.there (.there .here)))) rfl (MSub.cons (.there (.there (.there (.there .here)))) rfl (MSub.cons (.there .here) rfl (MSub.cons (.there (.there (.there .here))) rfl (MSub.cons .here rfl (MSub.cons (.there (.there .here)) rfl (MSub.cons (.there (.there .here)) rfl (MSub.cons (.there (.there .here)) rfl MSub.nil)))))))))
                    · first | omega | (dsimp only; omega)
                    · exact hGl2
                    · refine ⟨?_, ?_⟩
                      · (try dsimp only) <;> (first | omega | rfl | assumption | (simp; done))
                      · (try dsimp only) <;> (exact fold_step em hA (addF_hit hm5 (by decide)))
              · refine Wk.mix ⟨false, false⟩ Fx.mix (by kernel_rfl) ?_
                have hll := addL_len (N := 1024) hA (i := 2) (dropL_len hri' hL (by decide))
                have htk := List.length_take_le j e.add
                refine Wt.one 0 (by kernel_rfl) ?_
                refine fz rfl .no Fx.fo48_0 (.u rfl) ?_
                refine .nil ?_
                refine Wt.one 2 (by kernel_rfl) ?_
                refine fz rfl .no Fx.fo48_0 (.u rfl) ?_
                refine .nil ?_
                refine Wt.one 3 (by kernel_rfl) ?_
                refine ld rfl .no Fx.ag5 (.u rfl) (fun _ => Rd.own .here (by first | exact wap_f rfl | rfl)) ?_
                refine .nil ?_
                refine Wt.one 4 (by kernel_rfl) ?_
                refine fz rfl .no Fx.fo27_0 (.u rfl) ?_
                refine .nil ?_
                refine Wt.one 5 (by kernel_rfl) ?_
                refine iA rfl .no Fx.ar23 (.u rfl) (.u rfl) (fun _ => by omega) (fun _ => by omega) ?_
                rw [show 0 + m.level.toNat * 1 = 2 from by rw [hm5]; rfl]
                refine .nil ?_
                refine Wt.one 6 (by kernel_rfl) ?_
                refine ld rfl .no Fx.ag22 (.u rfl) (fun _ => Rd.own (.there (.there (.there (.there (.there (.there .here)))))) (by first | exact wap_f rfl | rfl)) ?_
                refine .nil ?_
                refine Wt.one 7 (by kernel_rfl) ?_
                refine lA rfl .no Fx.ag48 (.u rfl) (fun _ => RdN.own .here) (fun _ => Meta.len _) ?_
                refine .nil ?_
                refine Wt.one 10 (by kernel_rfl) ?_
                refine fz rfl .no Fx.fo27_0 (.u rfl) ?_
                refine .nil ?_
                refine Wt.b2 1 8 (by kernel_rfl) ?_ ?_
                · refine ld rfl .no Fx.ag5 (.u rfl) (fun _ => Rd.own .here (by first | exact wap_f rfl | rfl)) ?_
                  refine .nil ?_
                  refine Wt.b1 8 (by kernel_rfl) ?_
                  refine Go.Tan.b1 rfl Fx.se22 Fx.zw48 (.u rfl) rfl rfl (by decide) ?_; intro b113
                  refine .nil ?_
                  refine Wt.b1 9 (by kernel_rfl) ?_
                  refine apS (xs := (L2 2)) (m) rfl Fx.se22 Fx.zw48 rfl (.u rfl) (.u rfl) (.there (.there (.there (.there .here)))) .here (Meta.len _) (Meta.one _) (by omega) (by unfold maxLen; omega) ?_; intro v114 ov114
                  refine .nil ?_
                  refine Wt.one 11 (by kernel_rfl) ?_
                  refine iA rfl .no Fx.ar23 (.u rfl) (.u rfl) (fun _ => by omega) (fun _ => by omega) ?_
                  rw [show 0 + m.level.toNat * 1 = 2 from by rw [hm5]; rfl]
                  refine .nil ?_
                  refine Wt.b1 12 (by kernel_rfl) ?_
                  refine s1v rfl (.u rfl) (.u rfl) .here Fx.sz22 (.there (.there (.there (.there (.there (.there (.there .here))))))) (by show _ < 14; first | decide | omega) (rfl) ?_
                  refine .nil ?_
                  refine Wt.last (by kernel_rfl) ?_
                  refine .blk ?_
                  refine .code ?_
                  refine Wk.rg [0, 1] rfl rfl ?_
                  refine arn (((j + 1) : Nat) : Int) rfl .no (.u rfl) (.u rfl) rfl (fun _ => by omega) (fun _ => wrap_i64 (by omega) (by omega)) ?_
                  refine mv rfl .no (.u rfl) ?_
                  refine .nil ?_
                  refine We.lpo (j + 1, w0, w1, v114, w3, w4, updL L2 2 (L2 2 ++ [m])) ?_ ?_ ?_ ?_ ?_
                  · exact (ESub.cons rfl (by first | rfl | exact evi (by omega)) (ESub.cons rfl rfl (ESub.cons rfl rfl (ESub.cons rfl rfl (ESub.cons rfl rfl ESub.nil)))))
                  · exact (MSub.cons (.there (.there (.there (.there .here)))) rfl (MSub.cons (.there (.there (.there (.there .here)))) rfl (MSub.cons (.there .here) rfl (MSub.cons (.there (.there (.there .here))) rfl (MSub.cons (.there (.there (.there .here))) rfl (MSub.cons .here rfl (MSub.cons (.there (.there .here)) rfl (MSub.cons (.there (.there .here)) rfl (MSub.cons (.there (.there .here)) rfl MSub.nil)))))))))
                  · first | omega | (dsimp only; omega)
                  · exact hGl2
                  · refine ⟨?_, ?_⟩
                    · (try dsimp only) <;> (first | omega | rfl | assumption | (simp; done))
                    · (try dsimp only) <;> (exact fold_step em hA (addF_hit hm5 (by decide)))
                · refine Go.Tan.b1 rfl Fx.se22 Fx.zw48 (.u rfl) rfl rfl (by decide) ?_; intro b113
                  refine .nil ?_
                  refine Wt.b2 1 9 (by kernel_rfl) ?_ ?_
                  · refine ld rfl .no Fx.ag5 (.u rfl) (fun _ => Rd.own (.there .here) (by first | exact wap_f rfl | rfl)) ?_
                    refine .nil ?_
                    refine Wt.b1 9 (by kernel_rfl) ?_
                    refine apS (xs := (L2 2)) (m) rfl Fx.se22 Fx.zw48 rfl (.u rfl) (.u rfl) (.there (.there (.there (.there .here)))) .here (Meta.len _) (Meta.one _) (by omega) (by unfold maxLen; omega) ?_; intro v114 ov114
                    refine .nil ?_
                    refine Wt.one 11 (by kernel_rfl) ?_
                    refine iA rfl .no Fx.ar23 (.u rfl) (.u rfl) (fun _ => by omega) (fun _ => by omega) ?_
                    rw [show 0 + m.level.toNat * 1 = 2 from by rw [hm5]; rfl]
                    refine .nil ?_
                    refine Wt.b1 12 (by kernel_rfl) ?_
                    refine s1v rfl (.u rfl) (.u rfl) .here Fx.sz22 (.there (.there (.there (.there (.there (.there (.there .here))))))) (by show _ < 14; first | decide | omega) (rfl) ?_
                    refine .nil ?_
                    refine Wt.last (by kernel_rfl) ?_
                    refine .blk ?_
                    refine .code ?_
                    refine Wk.rg [0, 1] rfl rfl ?_
                    refine arn (((j + 1) : Nat) : Int) rfl .no (.u rfl) (.u rfl) rfl (fun _ => by omega) (fun _ => wrap_i64 (by omega) (by omega)) ?_
                    refine mv rfl .no (.u rfl) ?_
                    refine .nil ?_
                    refine We.lpo (j + 1, w0, w1, v114, w3, w4, updL L2 2 (L2 2 ++ [m])) ?_ ?_ ?_ ?_ ?_
                    · exact (ESub.cons rfl (by first | rfl | exact evi (by omega)) (ESub.cons rfl rfl (ESub.cons rfl rfl (ESub.cons rfl rfl (ESub.cons rfl rfl ESub.nil)))))
                    · exact (MSub.cons (.there (.there (.there (.there .here)))) rfl (MSub.cons (.there (.there (.there (.there .here)))) rfl (MSub.cons (.there .here) rfl (MSub.cons (.there (.there (.there .here))) rfl (MSub.cons (.there (.there (.there .here))) rfl (MSub.cons .here rfl (MSub.cons (.there (.there .here)) rfl (MSub.cons (.there (.there .here)) rfl (MSub.cons (.there (.there .here)) rfl MSub.nil)))))))))
                    · first | omega | (dsimp only; omega)
                    · exact hGl2
                    · refine ⟨?_, ?_⟩
                      · (try dsimp only) <;> (first | omega | rfl | assumption | (simp; done))
                      · (try dsimp only) <;> (exact fold_step em hA (addF_hit hm5 (by decide)))
                  · refine apS (xs := (L2 2)) (m) rfl Fx.se22 Fx.zw48 rfl (.u rfl) (.u rfl) (.there (.there (.there (.there .here)))) .here (Meta.len _) (Meta.one _) (by omega) (by unfold maxLen; omega) ?_; intro v114 ov114
                    refine .nil ?_
                    refine Wt.one 1 (by kernel_rfl) ?_
                    refine ld rfl .no Fx.ag5 (.u rfl) (fun _ => Rd.own (.there (.there .here)) (by first | exact wap_f rfl | rfl)) ?_
                    refine .nil ?_
                    refine Wt.one 11 (by kernel_rfl) ?_
                    refine iA rfl .no Fx.ar23 (.u rfl) (.u rfl) (fun _ => by omega) (fun _ => by omega) ?_
                    rw [show 0 + m.level.toNat * 1 = 2 from by rw [hm5]; rfl]
                    refine .nil ?_
                    refine Wt.b1 12 (by kernel_rfl) ?_
                    refine s1v rfl (.u rfl) (.u rfl) .here Fx.sz22 (.there (.there (.there (.there (.there (.there (.there .here))))))) (by show _ < 14; first | decide | omega) (rfl) ?_
                    refine .nil ?_
                    refine Wt.last (by kernel_rfl) ?_
                    refine .blk ?_
                    refine .code ?_
                    refine Wk.rg [0, 1] rfl rfl ?_
                    refine arn (((j + 1) : Nat) : Int) rfl .no (.u rfl) (.u rfl) rfl (fun _ => by omega) (fun _ => wrap_i64 (by omega) (by omega)) ?_
                    refine mv rfl .no (.u rfl) ?_
                    refine .nil ?_
                    refine We.lpo (j + 1, w0, w1, v114, w3, w4, updL L2 2 (L2 2 ++ [m])) ?_ ?_ ?_ ?_ ?_
                    · exact (ESub.cons rfl (by first | rfl | exact evi (by omega)) (ESub.cons rfl rfl (ESub.cons rfl rfl (ESub.cons rfl rfl (ESub.cons rfl rfl ESub.nil)))))
                    · exact (MSub.cons (.there (.there (.there (.there .here)))) rfl (MSub.cons (.there (.there (.there (.there .here)))) rfl (MSub.cons (.there .here) rfl (MSub.cons (.there (.there (.there .here))) rfl (MSub.cons (.there (.there (.there .here))) rfl (MSub.cons .here rfl (MSub.cons (.there (.there .here)) rfl (MSub.cons (.there (.there .here)) rfl (MSub.cons (.there (.there .here)) rfl MSub.nil)))))))))
                    · first | omega | (dsimp only; omega)
                    · exact hGl2
                    · refine ⟨?_, ?_⟩
                      · (try dsimp only) <;> (first | omega | rfl | assumption | (simp; done))
                      · (try dsimp only) <;> (exact fold_step em hA (addF_hit hm5 (by decide)))
              · refine Wk.mix ⟨false, false⟩ Fx.mix (by kernel_rfl) ?_
                have hll := addL_len (N := 1024) hA (i := 3) (dropL_len hri' hL (by decide))
                have htk := List.length_take_le j e.add
                refine Wt.one 0 (by kernel_rfl) ?_
                refine fz rfl .no Fx.fo48_0 (.u rfl) ?_
                refine .nil ?_
                refine Wt.one 2 (by kernel_rfl) ?_
                refine fz rfl .no Fx.fo48_0 (.u rfl) ?_
                refine .nil ?_
                refine Wt.one 3 (by kernel_rfl) ?_
                refine ld rfl .no Fx.ag5 (.u rfl) (fun _ => Rd.own .here (by first | exact wap_f rfl | rfl)) ?_
                refine .nil ?_
                refine Wt.one 4 (by kernel_rfl) ?_
                refine fz rfl .no Fx.fo27_0 (.u rfl) ?_
                refine .nil ?_
                refine Wt.one 5 (by kernel_rfl) ?_
                refine iA rfl .no Fx.ar23 (.u rfl) (.u rfl) (fun _ => by omega) (fun _ => by omega) ?_
                rw [show 0 + m.level.toNat * 1 = 3 from by rw [hm5]; rfl]
                refine .nil ?_
                refine Wt.one 6 (by kernel_rfl) ?_
                refine ld rfl .no Fx.ag22 (.u rfl) (fun _ => Rd.own (.there (.there (.there (.there (.there (.there .here)))))) (by first | exact wap_f rfl | rfl)) ?_
                refine .nil ?_
                refine Wt.one 7 (by kernel_rfl) ?_
                refine lA rfl .no Fx.ag48 (.u rfl) (fun _ => RdN.own .here) (fun _ => Meta.len _) ?_
                refine .nil ?_
                refine Wt.one 10 (by kernel_rfl) ?_
                refine fz rfl .no Fx.fo27_0 (.u rfl) ?_
                refine .nil ?_
                refine Wt.b2 1 8 (by kernel_rfl) ?_ ?_
                · refine ld rfl .no Fx.ag5 (.u rfl) (fun _ => Rd.own .here (by first | exact wap_f rfl | rfl)) ?_
                  refine .nil ?_
                  refine Wt.b1 8 (by kernel_rfl) ?_
                  refine Go.Tan.b1 rfl Fx.se22 Fx.zw48 (.u rfl) rfl rfl (by decide) ?_; intro b113
                  refine .nil ?_
                  refine Wt.b1 9 (by kernel_rfl) ?_
                  refine apS (xs := (L2 3)) (m) rfl Fx.se22 Fx.zw48 rfl (.u rfl) (.u rfl) (.there (.there (.there .here))) .here (Meta.len _) (Meta.one _) (by omega) (by unfold maxLen; omega) ?_; intro v114 ov114
                  refine .nil ?_
                  refine Wt.one 11 (by kernel_rfl) ?_
                  refine iA rfl .no Fx.ar23 (.u rfl) (.u rfl) (fun _ => by omega) (fun _ => by omega) ?_
                  rw [show 0 + m.level.toNat * 1 = 3 from by rw [hm5]; rfl]
                  refine .nil ?_
                  refine Wt.b1 12 (by kernel_rfl) ?_
                  refine s1v rfl (.u rfl) (.u rfl) .here Fx.sz22 (.there (.there (.there (.there (.there (.there (.there .here))))))) (by show _ < 14; first | decide | omega) (rfl) ?_
                  refine .nil ?_
                  refine Wt.last (by kernel_rfl) ?_
                  refine .blk ?_
                  refine .code ?_
                  refine Wk.rg [0, 1] rfl rfl ?_
                  refine arn (((j + 1) : Nat) : Int) rfl .no (.u rfl) (.u rfl) rfl (fun _ => by omega) (fun _ => wrap_i64 (by omega) (by omega)) ?_
                  refine mv rfl .no (.u rfl) ?_
                  refine .nil ?_
                  refine We.lpo (j + 1, w0, w1, w2, v114, w4, updL L2 3 (L2 3 ++ [m])) ?_ ?_ ?_ ?_ ?_
                  · exact (ESub.cons rfl (by first | rfl | exact evi (by omega)) (ESub.cons rfl rfl (ESub.cons rfl rfl (ESub.cons rfl rfl (ESub.cons rfl rfl ESub.nil)))))
                  · exact (MSub.cons (.there (.there (.there (.there .here)))) rfl (MSub.cons (.there .here) rfl (MSub.cons (.there (.there (.there .here))) rfl (MSub.cons (.there (.there (.there .here))) rfl (MSub.cons (.there (.there (.there .here))) rfl (MSub.cons .here rfl (MSub.cons (.there (.there .here)) rfl (MSub.cons (.there (.there .here)) rfl (MSub.cons (.there (.there .here)) rfl MSub.nil)))))))))
                  · first | omega | (dsimp only; omega)
                  · exact hGl2
                  · refine ⟨?_, ?_⟩
                    · (try dsimp only) <;> (first | omega | rfl | assumption | (simp; done))
                    · (try dsimp only) <;> (exact fold_step em hA (addF_hit hm5 (by decide)))
                · refine Go.Tan.b1 rfl Fx.se22 Fx.zw48 (.u rfl) rfl rfl (by decide) ?_; intro b113
                  refine .nil ?_
                  refine Wt.b2 1 9 (by kernel_rfl) ?_ ?_
                  · refine ld rfl .no Fx.ag5 (.u rfl) (fun _ => Rd.own (.there .here) (by first | exact wap_f rfl | rfl)) ?_
                    refine .nil ?_
                    refine Wt.b1 9 (by kernel_rfl) ?_
                    refine apS (xs := (L2 3)) (m) rfl Fx.se22 Fx.zw48 rfl (.u rfl) (.u rfl) (.there (.there (.there .here))) .here (Meta.len _) (Meta.one _) (by omega) (by unfold maxLen; omega) ?_; intro v114 ov114
                    refine .nil ?_
                    refine Wt.one 11 (by kernel_rfl) ?_
                    refine iA rfl .no Fx.ar23 (.u rfl) (.u rfl) (fun _ => by omega) (fun _ => by omega) ?_
                    rw [show 0 + m.level.toNat * 1 = 3 from by rw [hm5]; rfl]
                    refine .nil ?_
                    refine Wt.b1 12 (by kernel_rfl) ?_
                    refine s1v rfl (.u rfl) (.u rfl) .here Fx.sz22 (.there (.there (.there (.there (.there (.there (.there .here))))))) (by show _ < 14; first | decide | omega) (rfl) ?_
                    refine .nil ?_
                    refine Wt.last (by kernel_rfl) ?_
                    refine .blk ?_
                    refine .code ?_
                    refine Wk.rg [0, 1] rfl rfl ?_
                    refine arn (((j + 1) : Nat) : Int) rfl .no (.u rfl) (.u rfl) rfl (fun _ => by omega) (fun _ => wrap_i64 (by omega) (by omega)) ?_
                    refine mv rfl .no (.u rfl) ?_
                    refine .nil ?_
                    refine We.lpo (j + 1, w0, w1, w2, v114, w4, updL L2 3 (L2 3 ++ [m])) ?_ ?_ ?_ ?_ ?_
                    · exact (ESub.cons rfl (by first | rfl | exact evi (by omega)) (ESub.cons rfl rfl (ESub.cons rfl rfl (ESub.cons rfl rfl (ESub.cons rfl rfl ESub.nil)))))
                    · exact (MSub.cons (.there (.there (.there (.there .here)))) rfl (MSub.cons (.there .here) rfl (MSub.cons (.there (.there (.there .here))) rfl (MSub.cons (.there (.there (.there .here))) rfl (MSub.cons (.there (.there (.there .here))) rfl (MSub.cons .here rfl (MSub.cons (.there (.there .here)) rfl (MSub.cons (.there (.there .here)) rfl (MSub.cons (.there (.there .here)) rfl MSub.nil)))))))))
                    · first | omega | (dsimp only; omega)
                    · exact hGl2
                    · refine ⟨?_, ?_⟩
                      · (try dsimp only) <;> (first | omega | rfl | assumption | (simp; done))
                      · (try dsimp only) <;> (exact fold_step em hA (addF_hit hm5 (by decide)))
                  · refine apS (xs := (L2 3)) (m) rfl Fx.se22 Fx.zw48 rfl (.u rfl) (.u rfl) (.there (.there (.there .here))) .here (Meta.len _) (Meta.one _) (by omega) (by unfold maxLen; omega) ?_; intro v114 ov114
                    refine .nil ?_
                    refine Wt.one 1 (by kernel_rfl) ?_
                    refine ld rfl .no Fx.ag5 (.u rfl) (fun _ => Rd.own (.there (.there .here)) (by first | exact wap_f rfl | rfl)) ?_
                    refine .nil ?_
                    refine Wt.one 11 (by kernel_rfl) ?_
                    refine iA rfl .no Fx.ar23 (.u rfl) (.u rfl) (fun _ => by omega) (fun _ => by omega) ?_
                    rw [show 0 + m.level.toNat * 1 = 3 from by rw [hm5]; rfl]
                    refine .nil ?_
                    refine Wt.b1 12 (by kernel_rfl) ?_
                    refine s1v rfl (.u rfl) (.u rfl) .here Fx.sz22 (.there (.there (.there (.there (.there (.there (.there .here))))))) (by show _ < 14; first | decide | omega) (rfl) ?_
                    refine .nil ?_
                    refine Wt.last (by kernel_rfl) ?_
                    refine .blk ?_
                    refine .code ?_
                    refine Wk.rg [0, 1] rfl rfl ?_
                    refine arn (((j + 1) : Nat) : Int) rfl .no (.u rfl) (.u rfl) rfl (fun _ => by omega) (fun _ => wrap_i64 (by omega) (by omega)) ?_
                    refine mv rfl .no (.u rfl) ?_
                    refine .nil ?_
                    refine We.lpo (j + 1, w0, w1, w2, v114, w4, updL L2 3 (L2 3 ++ [m])) ?_ ?_ ?_ ?_ ?_
                    · exact (ESub.cons rfl (by first | rfl | exact evi (by omega)) (ESub.cons rfl rfl (ESub.cons rfl rfl (ESub.cons rfl rfl (ESub.cons rfl rfl ESub.nil)))))
                    · exact (MSub.cons (.there (.there (.there (.there .here)))) rfl (MSub.cons (.there .here) rfl (MSub.cons (.there (.there (.there .here))) rfl (MSub.cons (.there (.there (.there .here))) rfl (MSub.cons (.there (.there (.there .here))) rfl (MSub.cons .here rfl (MSub.cons (.there (.there .here)) rfl (MSub.cons (.there (.there .here)) rfl (MSub.cons (.there (.there .here)) rfl MSub.nil)))))))))
                    · first | omega | (dsimp only; omega)
                    · exact hGl2
                    · refine ⟨?_, ?_⟩
                      · (try dsimp only) <;> (first | omega | rfl | assumption | (simp; done))
                      · (try dsimp only) <;> (exact fold_step em hA (addF_hit hm5 (by decide)))
              · refine Wk.mix ⟨false, false⟩ Fx.mix (by kernel_rfl) ?_
                have hll := addL_len (N := 1024) hA (i := 4) (dropL_len hri' hL (by decide))
                have htk := List.length_take_le j e.add
                refine Wt.one 0 (by kernel_rfl) ?_
                refine fz rfl .no Fx.fo48_0 (.u rfl) ?_
                refine .nil ?_
                refine Wt.one 2 (by kernel_rfl) ?_
                refine fz rfl .no Fx.fo48_0 (.u rfl) ?_
                refine .nil ?_
                refine Wt.one 3 (by kernel_rfl) ?_
                refine ld rfl .no Fx.ag5 (.u rfl) (fun _ => Rd.own .here (by first | exact wap_f rfl | rfl)) ?_
                refine .nil ?_
                refine Wt.one 4 (by kernel_rfl) ?_
                refine fz rfl .no Fx.fo27_0 (.u rfl) ?_
                refine .nil ?_
                refine Wt.one 5 (by kernel_rfl) ?_
                refine iA rfl .no Fx.ar23 (.u rfl) (.u rfl) (fun _ => by omega) (fun _ => by omega) ?_
                rw [show 0 + m.level.toNat * 1 = 4 from by rw [hm5]; rfl]
                refine .nil ?_
                refine Wt.one 6 (by kernel_rfl) ?_
                refine ld rfl .no Fx.ag22 (.u rfl) (fun _ => Rd.own (.there (.there (.there (.there (.there (.there .here)))))) (by first | exact wap_f rfl | rfl)) ?_
                refine .nil ?_
                refine Wt.one 7 (by kernel_rfl) ?_
                refine lA rfl .no Fx.ag48 (.u rfl) (fun _ => RdN.own .here) (fun _ => Meta.len _) ?_
                refine .nil ?_
                refine Wt.one 10 (by kernel_rfl) ?_
                refine fz rfl .no Fx.fo27_0 (.u rfl) ?_
                refine .nil ?_
                refine Wt.b2 1 8 (by kernel_rfl) ?_ ?_
                · refine ld rfl .no Fx.ag5 (.u rfl) (fun _ => Rd.own .here (by first | exact wap_f rfl | rfl)) ?_
                  refine .nil ?_
                  refine Wt.b1 8 (by kernel_rfl) ?_
                  refine Go.Tan.b1 rfl Fx.se22 Fx.zw48 (.u rfl) rfl rfl (by decide) ?_; intro b113
                  refine .nil ?_
                  refine Wt.b1 9 (by kernel_rfl) ?_
                  refine apS (xs := (L2 4)) (m) rfl Fx.se22 Fx.zw48 rfl (.u rfl) (.u rfl) (.there (.there .here)) .here (Meta.len _) (Meta.one _) (by omega) (by unfold maxLen; omega) ?_; intro v114 ov114
                  refine .nil ?_
                  refine Wt.one 11 (by kernel_rfl) ?_
                  refine iA rfl .no Fx.ar23 (.u rfl) (.u rfl) (fun _ => by omega) (fun _ => by omega) ?_
                  rw [show 0 + m.level.toNat * 1 = 4 from by rw [hm5]; rfl]
                  refine .nil ?_
                  refine Wt.b1 12 (by kernel_rfl) ?_
                  refine s1v rfl (.u rfl) (.u rfl) .here Fx.sz22 (.there (.there (.there (.there (.there (.there (.there .here))))))) (by show _ < 14; first | decide | omega) (rfl) ?_
                  refine .nil ?_
                  refine Wt.last (by kernel_rfl) ?_
                  refine .blk ?_
                  refine .code ?_
                  refine Wk.rg [0, 1] rfl rfl ?_
                  refine arn (((j + 1) : Nat) : Int) rfl .no (.u rfl) (.u rfl) rfl (fun _ => by omega) (fun _ => wrap_i64 (by omega) (by omega)) ?_
                  refine mv rfl .no (.u rfl) ?_
                  refine .nil ?_
                  refine We.lpo (j + 1, w0, w1, w2, w3, v114, updL L2 4 (L2 4 ++ [m])) ?_ ?_ ?_ ?_ ?_
                  · exact (ESub.cons rfl (by first | rfl | exact evi (by omega)) (ESub.cons rfl rfl (ESub.cons rfl rfl (ESub.cons rfl rfl (ESub.cons rfl rfl ESub.nil)))))
                  · exact (MSub.cons (.there .here) rfl (MSub.cons (.there (.there (.there .here))) rfl (MSub.cons (.there (.there (.there .here))) rfl (MSub.cons (.there (.there (.there .here))) rfl (MSub.cons (.there (.there (.there .here))) rfl (MSub.cons .here rfl (MSub.cons (.there (.there .here)) rfl (MSub.cons (.there (.there .here)) rfl (MSub.cons (.there (.there .here)) rfl MSub.nil)))))))))
                  · first | omega | (dsimp only; omega)
                  · exact hGl2
                  · refine ⟨?_, ?_⟩
                    · (try dsimp only) <;> (first | omega | rfl | assumption | (simp; done))
                    · (try dsimp only) <;> (exact fold_step em hA (addF_hit hm5 (by decide)))
                · refine Go.Tan.b1 rfl Fx.se22 Fx.zw48 (.u rfl) rfl rfl (by decide) ?_; intro b113
                  refine .nil ?_
                  refine Wt.b2 1 9 (by kernel_rfl) ?_ ?_
                  · refine ld rfl .no Fx.ag5 (.u rfl) (fun _ => Rd.own (.there .here) (by first | exact wap_f rfl | rfl)) ?_
                    refine .nil ?_
                    refine Wt.b1 9 (by kernel_rfl) ?_
                    refine apS (xs := (L2 4)) (m) rfl Fx.se22 Fx.zw48 rfl (.u rfl) (.u rfl) (.there (.there .here)) .here (Meta.len _) (Meta.one _) (by omega) (by unfold maxLen; omega) ?_; intro v114 ov114
                    refine .nil ?_
                    refine Wt.one 11 (by kernel_rfl) ?_
                    refine iA rfl .no Fx.ar23 (.u rfl) (.u rfl) (fun _ => by omega) (fun _ => by omega) ?_
                    rw [show 0 + m.level.toNat * 1 = 4 from by rw [hm5]; rfl]
                    refine .nil ?_
                    refine Wt.b1 12 (by kernel_rfl) ?_
                    refine s1v rfl (.u rfl) (.u rfl) .here Fx.sz22 (.there (.there (.there (.there (.there (.there (.there .here))))))) (by show _ < 14; first | decide | omega) (rfl) ?_
                    refine .nil ?_
                    refine Wt.last (by kernel_rfl) ?_
                    refine .blk ?_
                    refine .code ?_
                    refine Wk.rg [0, 1] rfl rfl ?_
                    refine arn (((j + 1) : Nat) : Int) rfl .no (.u rfl) (.u rfl) rfl (fun _ => by omega) (fun _ => wrap_i64 (by omega) (by omega)) ?_
                    refine mv rfl .no (.u rfl) ?_
                    refine .nil ?_
                    refine We.lpo (j + 1, w0, w1, w2, w3, v114, updL L2 4 (L2 4 ++ [m])) ?_ ?_ ?_ ?_ ?_
                    · exact (ESub.cons rfl (by first | rfl | exact evi (by omega)) (ESub.cons rfl rfl (ESub.cons rfl rfl (ESub.cons rfl rfl (ESub.cons rfl rfl ESub.nil)))))
                    · exact (MSub.cons (.there .here) rfl (MSub.cons (.there (.there (.there .here))) rfl (MSub.cons (.there (.there (.there .here))) rfl (MSub.cons (.there (.there (.there .here))) rfl (MSub.cons (.there (.there (.there .here))) rfl (MSub.cons .here rfl (MSub.cons (.there (.there .here)) rfl (MSub.cons (.there (.there .here)) rfl (MSub.cons (.there (.there .here)) rfl MSub.nil)))))))))
                    · first | omega | (dsimp only; omega)
                    · exact hGl2
                    · refine ⟨?_, ?_⟩
                      · (try dsimp only) <;> (first | omega | rfl | assumption | (simp; done))
                      · (try dsimp only) <;> (exact fold_step em hA (addF_hit hm5 (by decide)))
                  · refine apS (xs := (L2 4)) (m) rfl Fx.se22 Fx.zw48 rfl (.u rfl) (.u rfl) (.there (.there .here)) .here (Meta.len _) (Meta.one _) (by omega) (by unfold maxLen; omega) ?_; intro v114 ov114
                    refine .nil ?_
                    refine Wt.one 1 (by kernel_rfl) ?_
                    refine ld rfl .no Fx.ag5 (.u rfl) (fun _ => Rd.own (.there (.there .here)) (by first | exact wap_f rfl | rfl)) ?_
                    refine .nil ?_
                    refine Wt.one 11 (by kernel_rfl) ?_
                    refine iA rfl .no Fx.ar23 (.u rfl) (.u rfl) (fun _ => by omega) (fun _ => by omega) ?_
                    rw [show 0 + m.level.toNat * 1 = 4 from by rw [hm5]; rfl]
                    refine .nil ?_
                    refine Wt.b1 12 (by kernel_rfl) ?_
                    refine s1v rfl (.u rfl) (.u rfl) .here Fx.sz22 (.there (.there (.there (.there (.there (.there (.there .here))))))) (by show _ < 14; first | decide | omega) (rfl) ?_
                    refine .nil ?_
                    refine Wt.last (by kernel_rfl) ?_
                    refine .blk ?_
                    refine .code ?_
                    refine Wk.rg [0, 1] rfl rfl ?_
                    refine arn (((j + 1) : Nat) : Int) rfl .no (.u rfl) (.u rfl) rfl (fun _ => by omega) (fun _ => wrap_i64 (by omega) (by omega)) ?_
                    refine mv rfl .no (.u rfl) ?_
                    refine .nil ?_
                    refine We.lpo (j + 1, w0, w1, w2, w3, v114, updL L2 4 (L2 4 ++ [m])) ?_ ?_ ?_ ?_ ?_
                    · exact (ESub.cons rfl (by first | rfl | exact evi (by omega)) (ESub.cons rfl rfl (ESub.cons rfl rfl (ESub.cons rfl rfl (ESub.cons rfl rfl ESub.nil)))))
                    · exact (MSub.cons (.there .here) rfl (MSub.cons (.there (.there (.there .here))) rfl (MSub.cons (.there (.there (.there .here))) rfl (MSub.cons (.there (.there (.there .here))) rfl (MSub.cons (.there (.there (.there .here))) rfl (MSub.cons .here rfl (MSub.cons (.there (.there .here)) rfl (MSub.cons (.there (.there .here)) rfl (MSub.cons (.there (.there .here)) rfl MSub.nil)))))))))
                    · first | omega | (dsimp only; omega)
                    · exact hGl2
                    · refine ⟨?_, ?_⟩
                      · (try dsimp only) <;> (first | omega | rfl | assumption | (simp; done))
                      · (try dsimp only) <;> (exact fold_step em hA (addF_hit hm5 (by decide)))
          · have c11k := c11
            try simp only [decide_eq_true_eq, decide_eq_false_iff_not, Int.not_lt, Int.not_le, gt_iff_lt, ge_iff_le, Bool.or_eq_true, Bool.and_eq_true, Bool.or_eq_false_iff, Bool.and_eq_false_iff, Bool.not_eq_true', Bool.not_eq_false', Int.toNat_natCast, bne_iff_ne, beq_iff_eq, bne_eq_false_iff_eq, beq_eq_false_iff_ne, ne_eq] at c11
            refine .exit ?_
            refine .xcode ?_
            refine .xlp ?_
            refine .xblk ?_
            refine .code ?_
            refine .seq ?_
            refine .seq ?_
            refine Wk.rg [0, 1, 2] rfl rfl ?_
            refine fz rfl .no Fx.fo27_0 (.u rfl) ?_
            refine lA rfl .no Fx.ag23 (.u rfl) (fun _ => RdN.part (n := 5) (cs' := [w0, w1, w2, w3, w4]) (.there (.there (.there (.there (.there .here))))) (rfl)) (fun _ => rfl) ?_
            refine mv rfl .no (.u rfl) ?_
            refine .nil ?_
            refine .code ?_
            refine .block ?_
            obtain rfl : j = e.add.length := by omega
            rw [List.take_length] at hA
            have hL2l : ∀ i, i < 5 → (L2 i).length ≤ 2048 := fun i hi => by have := addL_len (N := 1024) hA (i := i) (dropL_len hri' hL hi); omega
            refine Wk.lop (α := Nat × Lvs) (fun gh => [(120, true, .int .i64 (gh.1 : Int))]) (fun gh => [rS 40 Meta.cells w4 48 (gh.2 4), rS 40 Meta.cells w3 48 (gh.2 3), rS 40 Meta.cells w2 48 (gh.2 2), rS 40 Meta.cells w1 48 (gh.2 1), rS 40 Meta.cells w0 48 (gh.2 0)])
              (fun gh Gl => (gh.1 ≤ 5) ∧ (∀ i, gh.2 i = if i < gh.1 then srtL L2 i else L2 i)) (fun gh => 5 - gh.1) (0, L2) [(4, true, _), (6, true, _), (119, true, _)] [_, _, _, _]
              (ESub.cons rfl (by first | rfl | exact evi (by omega)) (ESub.cons rfl rfl (ESub.cons rfl rfl (ESub.cons rfl rfl ESub.nil))))
              (MSub.cons .here rfl (MSub.cons .here rfl (MSub.cons .here rfl (MSub.cons .here rfl (MSub.cons .here rfl (MSub.cons .here rfl (MSub.cons .here rfl (MSub.cons .here rfl (MSub.cons .here rfl MSub.nil))))))))) ?_ ?_
            · refine ⟨?_, ?_⟩
              · (try dsimp only) <;> (first | omega | rfl | assumption | (simp; done))
              · (try dsimp only) <;> (exact fun i => rfl)
            intro gh N3 Gl3 hN3 hGl3 hF3
            obtain ⟨k, M⟩ := gh; dsimp only at hF3 hN3 ⊢
            obtain ⟨hk, hM⟩ := hF3
            have hs := hs.mono hGl3
            have hea := hea.mono hGl3
            have hed := hed.mono hGl3
            refine .seq ?_
            refine Wk.rg [0] rfl rfl ?_
            refine cp rfl .no (.u rfl) (.u rfl) rfl ?_
            refine .nil ?_
            refine .code ?_
            refine .seq ?_
            refine .cond rfl (fun c13 => ?_) (fun c13 => ?_)
            · have c13k := c13
              try simp only [decide_eq_true_eq, decide_eq_false_iff_not, Int.not_lt, Int.not_le, gt_iff_lt, ge_iff_le, Bool.or_eq_true, Bool.and_eq_true, Bool.or_eq_false_iff, Bool.and_eq_false_iff, Bool.not_eq_true', Bool.not_eq_false', Int.toNat_natCast, bne_iff_ne, beq_iff_eq, bne_eq_false_iff_eq, beq_eq_false_iff_ne, ne_eq] at c13
              refine .skip ?_
              refine .code ?_
              refine .seq ?_
              refine .block ?_
              refine .seq ?_
              rcases (show k = 0 ∨ k = 1 ∨ k = 2 ∨ k = 3 ∨ k = 4 by omega) with rfl | rfl | rfl | rfl | rfl
              · refine Wk.rg [0, 1, 2, 3, 4] rfl rfl ?_
                refine mv rfl .no (.u rfl) ?_
                refine ix rfl .no Fx.ar23 Fx.ag22 (.u rfl) (.u rfl) (fun _ => by decide) (fun _ => by decide) (fun _ => rfl) ?_
                refine al rfl Fx.zr3 ?_; intro b14
                refine s1 rfl (.u rfl) (.u rfl) rfl Fx.sz3 .here (by decide) (rfl) ?_
                refine asg rfl .no (.u rfl) ?_
                refine .nil ?_
                refine .code ?_
                refine wk_fz .here (by intro b hb; cases hb) ?_; intro Gfb14 hleb14 hbb14
                have hs := hs.mono hleb14
                have hea := hea.mono hleb14
                have hed := hed.mono hleb14
                refine Wk.rg [0, 1, 2] rfl rfl ?_
                refine mv rfl .no (.u rfl) ?_
                refine mf (vf := #[]) (vc := [Value.pointer (some ⟨b14, 0, none⟩)].toArray) rfl .no (fun a ha _ => by simp) (fun a ha _ => by simp [(Ev.u (c := true) rfl : Ev _ true (.tmp 14) _).eval ha rfl]) ?_
                refine ka rfl (.inr rfl) Fx.go53 (Eva.cons (.u rfl) (Eva.cons (.u rfl) Eva.nil)) (mtk1 (.there (.there (.there (.there .here))))) (ssf_ok (M 0) w0 54 Fx.go54 [.pointer (some ⟨b14, 0, none⟩)] (lvC 0) _ (lvC_cmp 0 b14 hbb14) (lvC_wk 0) (by rw [hM 0, if_neg (by decide)]; have := hL2l 0 (by decide); omega)) ?_
                rintro _ G126 μ126 hG126 ⟨rfl, rfl⟩
                have hs := hs.mono hG126
                have hea := hea.mono hG126
                have hed := hed.mono hG126
                have hbb14 := hbb14.mono hG126
                refine .nil ?_
                refine .blk ?_
                refine .code ?_
                refine Wk.rg [0, 1] rfl rfl ?_
                refine arn (((0 + 1) : Nat) : Int) rfl .no (.u rfl) (.u rfl) rfl (fun _ => by omega) (fun _ => wrap_i64 (by omega) (by omega)) ?_
                refine mv rfl .no (.u rfl) ?_
                refine .nil ?_
                refine We.lpo (1, updL M 0 (sortS (ltv (lvC 0)) (M 0))) ?_ ?_ ?_ ?_ ?_
                · exact (ESub.cons rfl (by first | rfl | exact evi (by omega)) (ESub.cons rfl rfl (ESub.cons rfl rfl (ESub.cons rfl rfl ESub.nil))))
                · exact (MSub.cons (.there .here) rfl (MSub.cons (.there .here) rfl (MSub.cons (.there .here) rfl (MSub.cons (.there .here) rfl (MSub.cons .here rfl (MSub.cons .here rfl (MSub.cons .here rfl (MSub.cons .here rfl (MSub.cons .here rfl MSub.nil)))))))))
                · first | omega | (dsimp only; omega)
                · exact ((hGl3).trans hleb14).trans hG126
                · refine ⟨?_, ?_⟩
                  · (try dsimp only) <;> (first | omega | rfl | assumption | (simp; done))
                  · (try dsimp only) <;> (exact srt_step5 hM)
              · refine Wk.rg [0, 1, 2, 3, 4] rfl rfl ?_
                refine mv rfl .no (.u rfl) ?_
                refine ix rfl .no Fx.ar23 Fx.ag22 (.u rfl) (.u rfl) (fun _ => by decide) (fun _ => by decide) (fun _ => rfl) ?_
                refine al rfl Fx.zr3 ?_; intro b14
                refine s1 rfl (.u rfl) (.u rfl) rfl Fx.sz3 .here (by decide) (rfl) ?_
                refine asg rfl .no (.u rfl) ?_
                refine .nil ?_
                refine .code ?_
                refine wk_fz .here (by intro b hb; cases hb) ?_; intro Gfb14 hleb14 hbb14
                have hs := hs.mono hleb14
                have hea := hea.mono hleb14
                have hed := hed.mono hleb14
                refine Wk.rg [0, 1, 2] rfl rfl ?_
                refine mv rfl .no (.u rfl) ?_
                refine mf (vf := #[]) (vc := [Value.pointer (some ⟨b14, 0, none⟩)].toArray) rfl .no (fun a ha _ => by simp) (fun a ha _ => by simp [(Ev.u (c := true) rfl : Ev _ true (.tmp 14) _).eval ha rfl]) ?_
                refine ka rfl (.inr rfl) Fx.go53 (Eva.cons (.u rfl) (Eva.cons (.u rfl) Eva.nil)) (mtk1 (.there (.there (.there .here)))) (ssf_ok (M 1) w1 54 Fx.go54 [.pointer (some ⟨b14, 0, none⟩)] (lvC 1) _ (lvC_cmp 1 b14 hbb14) (lvC_wk 1) (by rw [hM 1, if_neg (by decide)]; have := hL2l 1 (by decide); omega)) ?_
                rintro _ G126 μ126 hG126 ⟨rfl, rfl⟩
                have hs := hs.mono hG126
                have hea := hea.mono hG126
                have hed := hed.mono hG126
                have hbb14 := hbb14.mono hG126
                refine .nil ?_
                refine .blk ?_
                refine .code ?_
                refine Wk.rg [0, 1] rfl rfl ?_
                refine arn (((1 + 1) : Nat) : Int) rfl .no (.u rfl) (.u rfl) rfl (fun _ => by omega) (fun _ => wrap_i64 (by omega) (by omega)) ?_
                refine mv rfl .no (.u rfl) ?_
                refine .nil ?_
                refine We.lpo (2, updL M 1 (sortS (ltv (lvC 1)) (M 1))) ?_ ?_ ?_ ?_ ?_
                · exact (ESub.cons rfl (by first | rfl | exact evi (by omega)) (ESub.cons rfl rfl (ESub.cons rfl rfl (ESub.cons rfl rfl ESub.nil))))
                · exact (MSub.cons (.there .here) rfl (MSub.cons (.there .here) rfl (MSub.cons (.there .here) rfl (MSub.cons .here rfl (MSub.cons .here rfl (MSub.cons .here rfl (MSub.cons .here rfl (MSub.cons .here rfl (MSub.cons .here rfl MSub.nil)))))))))
                · first | omega | (dsimp only; omega)
                · exact ((hGl3).trans hleb14).trans hG126
                · refine ⟨?_, ?_⟩
                  · (try dsimp only) <;> (first | omega | rfl | assumption | (simp; done))
                  · (try dsimp only) <;> (exact srt_step5 hM)
              · refine Wk.rg [0, 1, 2, 3, 4] rfl rfl ?_
                refine mv rfl .no (.u rfl) ?_
                refine ix rfl .no Fx.ar23 Fx.ag22 (.u rfl) (.u rfl) (fun _ => by decide) (fun _ => by decide) (fun _ => rfl) ?_
                refine al rfl Fx.zr3 ?_; intro b14
                refine s1 rfl (.u rfl) (.u rfl) rfl Fx.sz3 .here (by decide) (rfl) ?_
                refine asg rfl .no (.u rfl) ?_
                refine .nil ?_
                refine .code ?_
                refine wk_fz .here (by intro b hb; cases hb) ?_; intro Gfb14 hleb14 hbb14
                have hs := hs.mono hleb14
                have hea := hea.mono hleb14
                have hed := hed.mono hleb14
                refine Wk.rg [0, 1, 2] rfl rfl ?_
                refine mv rfl .no (.u rfl) ?_
                refine mf (vf := #[]) (vc := [Value.pointer (some ⟨b14, 0, none⟩)].toArray) rfl .no (fun a ha _ => by simp) (fun a ha _ => by simp [(Ev.u (c := true) rfl : Ev _ true (.tmp 14) _).eval ha rfl]) ?_
                refine ka rfl (.inr rfl) Fx.go53 (Eva.cons (.u rfl) (Eva.cons (.u rfl) Eva.nil)) (mtk1 (.there (.there .here))) (ssf_ok (M 2) w2 54 Fx.go54 [.pointer (some ⟨b14, 0, none⟩)] (lvC 2) _ (lvC_cmp 2 b14 hbb14) (lvC_wk 2) (by rw [hM 2, if_neg (by decide)]; have := hL2l 2 (by decide); omega)) ?_
                rintro _ G126 μ126 hG126 ⟨rfl, rfl⟩
                have hs := hs.mono hG126
                have hea := hea.mono hG126
                have hed := hed.mono hG126
                have hbb14 := hbb14.mono hG126
                refine .nil ?_
                refine .blk ?_
                refine .code ?_
                refine Wk.rg [0, 1] rfl rfl ?_
                refine arn (((2 + 1) : Nat) : Int) rfl .no (.u rfl) (.u rfl) rfl (fun _ => by omega) (fun _ => wrap_i64 (by omega) (by omega)) ?_
                refine mv rfl .no (.u rfl) ?_
                refine .nil ?_
                refine We.lpo (3, updL M 2 (sortS (ltv (lvC 2)) (M 2))) ?_ ?_ ?_ ?_ ?_
                · exact (ESub.cons rfl (by first | rfl | exact evi (by omega)) (ESub.cons rfl rfl (ESub.cons rfl rfl (ESub.cons rfl rfl ESub.nil))))
                · exact (MSub.cons (.there .here) rfl (MSub.cons (.there .here) rfl (MSub.cons .here rfl (MSub.cons .here rfl (MSub.cons .here rfl (MSub.cons .here rfl (MSub.cons .here rfl (MSub.cons .here rfl (MSub.cons .here rfl MSub.nil)))))))))
                · first | omega | (dsimp only; omega)
                · exact ((hGl3).trans hleb14).trans hG126
                · refine ⟨?_, ?_⟩
                  · (try dsimp only) <;> (first | omega | rfl | assumption | (simp; done))
                  · (try dsimp only) <;> (exact srt_step5 hM)
              · refine Wk.rg [0, 1, 2, 3, 4] rfl rfl ?_
                refine mv rfl .no (.u rfl) ?_
                refine ix rfl .no Fx.ar23 Fx.ag22 (.u rfl) (.u rfl) (fun _ => by decide) (fun _ => by decide) (fun _ => rfl) ?_
                refine al rfl Fx.zr3 ?_; intro b14
                refine s1 rfl (.u rfl) (.u rfl) rfl Fx.sz3 .here (by decide) (rfl) ?_
                refine asg rfl .no (.u rfl) ?_
                refine .nil ?_
                refine .code ?_
                refine wk_fz .here (by intro b hb; cases hb) ?_; intro Gfb14 hleb14 hbb14
                have hs := hs.mono hleb14
                have hea := hea.mono hleb14
                have hed := hed.mono hleb14
                refine Wk.rg [0, 1, 2] rfl rfl ?_
                refine mv rfl .no (.u rfl) ?_
                refine mf (vf := #[]) (vc := [Value.pointer (some ⟨b14, 0, none⟩)].toArray) rfl .no (fun a ha _ => by simp) (fun a ha _ => by simp [(Ev.u (c := true) rfl : Ev _ true (.tmp 14) _).eval ha rfl]) ?_
                refine ka rfl (.inr rfl) Fx.go53 (Eva.cons (.u rfl) (Eva.cons (.u rfl) Eva.nil)) (mtk1 (.there .here)) (ssf_ok (M 3) w3 54 Fx.go54 [.pointer (some ⟨b14, 0, none⟩)] (lvC 3) _ (lvC_cmp 3 b14 hbb14) (lvC_wk 3) (by rw [hM 3, if_neg (by decide)]; have := hL2l 3 (by decide); omega)) ?_
                rintro _ G126 μ126 hG126 ⟨rfl, rfl⟩
                have hs := hs.mono hG126
                have hea := hea.mono hG126
                have hed := hed.mono hG126
                have hbb14 := hbb14.mono hG126
                refine .nil ?_
                refine .blk ?_
                refine .code ?_
                refine Wk.rg [0, 1] rfl rfl ?_
                refine arn (((3 + 1) : Nat) : Int) rfl .no (.u rfl) (.u rfl) rfl (fun _ => by omega) (fun _ => wrap_i64 (by omega) (by omega)) ?_
                refine mv rfl .no (.u rfl) ?_
                refine .nil ?_
                refine We.lpo (4, updL M 3 (sortS (ltv (lvC 3)) (M 3))) ?_ ?_ ?_ ?_ ?_
                · exact (ESub.cons rfl (by first | rfl | exact evi (by omega)) (ESub.cons rfl rfl (ESub.cons rfl rfl (ESub.cons rfl rfl ESub.nil))))
                · exact (MSub.cons (.there .here) rfl (MSub.cons .here rfl (MSub.cons .here rfl (MSub.cons .here rfl (MSub.cons .here rfl (MSub.cons .here rfl (MSub.cons .here rfl (MSub.cons .here rfl (MSub.cons .here rfl MSub.nil)))))))))
                · first | omega | (dsimp only; omega)
                · exact ((hGl3).trans hleb14).trans hG126
                · refine ⟨?_, ?_⟩
                  · (try dsimp only) <;> (first | omega | rfl | assumption | (simp; done))
                  · (try dsimp only) <;> (exact srt_step5 hM)
              · refine Wk.rg [0, 1, 2, 3, 4] rfl rfl ?_
                refine mv rfl .no (.u rfl) ?_
                refine ix rfl .no Fx.ar23 Fx.ag22 (.u rfl) (.u rfl) (fun _ => by decide) (fun _ => by decide) (fun _ => rfl) ?_
                refine al rfl Fx.zr3 ?_; intro b14
                refine s1 rfl (.u rfl) (.u rfl) rfl Fx.sz3 .here (by decide) (rfl) ?_
                refine asg rfl .no (.u rfl) ?_
                refine .nil ?_
                refine .code ?_
                refine wk_fz .here (by intro b hb; cases hb) ?_; intro Gfb14 hleb14 hbb14
                have hs := hs.mono hleb14
                have hea := hea.mono hleb14
                have hed := hed.mono hleb14
                refine Wk.rg [0, 1, 2] rfl rfl ?_
                refine mv rfl .no (.u rfl) ?_
                refine mf (vf := #[]) (vc := [Value.pointer (some ⟨b14, 0, none⟩)].toArray) rfl .no (fun a ha _ => by simp) (fun a ha _ => by simp [(Ev.u (c := true) rfl : Ev _ true (.tmp 14) _).eval ha rfl]) ?_
                refine ka rfl (.inr rfl) Fx.go53 (Eva.cons (.u rfl) (Eva.cons (.u rfl) Eva.nil)) (mtk1 .here) (ssf_ok (M 4) w4 54 Fx.go54 [.pointer (some ⟨b14, 0, none⟩)] (lvC 4) _ (lvC_cmp 4 b14 hbb14) (lvC_wk 4) (by rw [hM 4, if_neg (by decide)]; have := hL2l 4 (by decide); omega)) ?_
                rintro _ G126 μ126 hG126 ⟨rfl, rfl⟩
                have hs := hs.mono hG126
                have hea := hea.mono hG126
                have hed := hed.mono hG126
                have hbb14 := hbb14.mono hG126
                refine .nil ?_
                refine .blk ?_
                refine .code ?_
                refine Wk.rg [0, 1] rfl rfl ?_
                refine arn (((4 + 1) : Nat) : Int) rfl .no (.u rfl) (.u rfl) rfl (fun _ => by omega) (fun _ => wrap_i64 (by omega) (by omega)) ?_
                refine mv rfl .no (.u rfl) ?_
                refine .nil ?_
                refine We.lpo (5, updL M 4 (sortS (ltv (lvC 4)) (M 4))) ?_ ?_ ?_ ?_ ?_
                · exact (ESub.cons rfl (by first | rfl | exact evi (by omega)) (ESub.cons rfl rfl (ESub.cons rfl rfl (ESub.cons rfl rfl ESub.nil))))
                · exact (MSub.cons .here rfl (MSub.cons .here rfl (MSub.cons .here rfl (MSub.cons .here rfl (MSub.cons .here rfl (MSub.cons .here rfl (MSub.cons .here rfl (MSub.cons .here rfl (MSub.cons .here rfl MSub.nil)))))))))
                · first | omega | (dsimp only; omega)
                · exact ((hGl3).trans hleb14).trans hG126
                · refine ⟨?_, ?_⟩
                  · (try dsimp only) <;> (first | omega | rfl | assumption | (simp; done))
                  · (try dsimp only) <;> (exact srt_step5 hM)
            · have c13k := c13
              try simp only [decide_eq_true_eq, decide_eq_false_iff_not, Int.not_lt, Int.not_le, gt_iff_lt, ge_iff_le, Bool.or_eq_true, Bool.and_eq_true, Bool.or_eq_false_iff, Bool.and_eq_false_iff, Bool.not_eq_true', Bool.not_eq_false', Int.toNat_natCast, bne_iff_ne, beq_iff_eq, bne_eq_false_iff_eq, beq_eq_false_iff_ne, ne_eq] at c13
              refine .exit ?_
              refine .xcode ?_
              refine .xlp ?_
              refine .xblk ?_
              refine .code ?_
              refine .seq ?_
              refine .seq ?_
              obtain rfl : k = 5 := by omega
              rw [show M 0 = srtL L2 0 from by rw [hM]; rfl, show M 1 = srtL L2 1 from by rw [hM]; rfl, show M 2 = srtL L2 2 from by rw [hM]; rfl, show M 3 = srtL L2 3 from by rw [hM]; rfl, show M 4 = srtL L2 4 from by rw [hM]; rfl]
              refine wk_fs (.there (.there (.there (.there .here)))) (fun _ _ => rfl) (by intro b hb; cases hb) ?_; intro GfR0 hR0 hleR0 evR0 hsR0; subst evR0
              have hs := hs.mono hleR0
              have hea := hea.mono hleR0
              have hed := hed.mono hleR0
              refine wk_fs (.there (.there (.there .here))) (fun _ _ => rfl) (by intro b hb; cases hb) ?_; intro GfR1 hR1 hleR1 evR1 hsR1; subst evR1
              have hs := hs.mono hleR1
              have hea := hea.mono hleR1
              have hed := hed.mono hleR1
              have hsR0 := hsR0.mono hleR1
              refine wk_fs (.there (.there .here)) (fun _ _ => rfl) (by intro b hb; cases hb) ?_; intro GfR2 hR2 hleR2 evR2 hsR2; subst evR2
              have hs := hs.mono hleR2
              have hea := hea.mono hleR2
              have hed := hed.mono hleR2
              have hsR0 := hsR0.mono hleR2
              have hsR1 := hsR1.mono hleR2
              refine wk_fs (.there .here) (fun _ _ => rfl) (by intro b hb; cases hb) ?_; intro GfR3 hR3 hleR3 evR3 hsR3; subst evR3
              have hs := hs.mono hleR3
              have hea := hea.mono hleR3
              have hed := hed.mono hleR3
              have hsR0 := hsR0.mono hleR3
              have hsR1 := hsR1.mono hleR3
              have hsR2 := hsR2.mono hleR3
              refine wk_fs .here (fun _ _ => rfl) (by intro b hb; cases hb) ?_; intro GfR4 hR4 hleR4 evR4 hsR4; subst evR4
              have hs := hs.mono hleR4
              have hea := hea.mono hleR4
              have hed := hed.mono hleR4
              have hsR0 := hsR0.mono hleR4
              have hsR1 := hsR1.mono hleR4
              have hsR2 := hsR2.mono hleR4
              have hsR3 := hsR3.mono hleR4
              rw [xC_cells (e := e) (L := srtL L2)]
              have hXR := stR5 (X := (mkX e (srtL L2))) hsR0 hsR1 hsR2 hsR3 hsR4 (fun i hi => by show (srtL L2 i).length ≤ _; rw [srtL_len]; have := hL2l i hi; omega) (fun i hi m hm => addL_wf (dropL_wf hs.wf hL) hE.wf.add hA i hi m (srtL_mem.1 hm))
              refine Wk.rg [0, 1, 2] rfl rfl ?_
              refine lA rfl .no Fx.ag27 (.u rfl) (fun _ => RdN.own .here) (fun _ => (by first | exact State.len | exact State.len.trans State.len.symm | exact Edit.len | exact Edit.len.trans Edit.len.symm | exact nine2_len | exact nine2_len.trans State.len.symm | rfl)) ?_
              refine kv rfl .no Fx.go12 (Eva.cons (.u rfl) Eva.nil) (fun _ => vRight_ok (mkX e (srtL L2)) (hx5 hR0 hR1 hR2 hR3 hR4) _ hXR) ?_
              refine nt rfl .no (.u rfl) ?_
              refine .nil ?_
              refine .code ?_
              refine .cond rfl (fun c14 => ?_) (fun c14 => ?_)
              · have c14k := c14
                try simp only [decide_eq_true_eq, decide_eq_false_iff_not, Int.not_lt, Int.not_le, gt_iff_lt, ge_iff_le, Bool.or_eq_true, Bool.and_eq_true, Bool.or_eq_false_iff, Bool.and_eq_false_iff, Bool.not_eq_true', Bool.not_eq_false', Int.toNat_natCast, bne_iff_ne, beq_iff_eq, bne_eq_false_iff_eq, beq_eq_false_iff_ne, ne_eq] at c14
                refine .seq ?_
                refine Wk.rg [0, 1, 2] rfl rfl ?_
                refine bC rfl .no Fx.bp27_ .nil rfl ?_
                refine sw rfl (.u rfl) (.u rfl) rfl Fx.sz27 (.there .here) (by first | exact State.len | exact State.len.trans State.len.symm | exact Edit.len | exact Edit.len.trans Edit.len.symm | exact nine2_len | exact nine2_len.trans State.len.symm | rfl) (State.one') ?_
                refine asg rfl .no (.u rfl) ?_
                refine .nil ?_
                refine .code ?_
                refine .ret ?_
                refine We.fin0 Try.results20 (.cell rfl (fun w hw => run_loadVarN Fx.ag27 (RdN.own .here) ((by first | exact State.len | exact State.len.trans State.len.symm | exact Edit.len | exact Edit.len.trans Edit.len.symm | exact nine2_len | exact nine2_len.trans State.len.symm | rfl)) hw) (.tmp rfl .nil)) ?_
                exact ⟨State.zero, hd0, 180, .inr (.inl ⟨hri, by rw [ap_end hok hL hA]; exact chk_no (EqS.refl _) (by assumption), rfl, rfl⟩), rfl, rfl, st_zero⟩
              · have c14k := c14
                try simp only [decide_eq_true_eq, decide_eq_false_iff_not, Int.not_lt, Int.not_le, gt_iff_lt, ge_iff_le, Bool.or_eq_true, Bool.and_eq_true, Bool.or_eq_false_iff, Bool.and_eq_false_iff, Bool.not_eq_true', Bool.not_eq_false', Int.toNat_natCast, bne_iff_ne, beq_iff_eq, bne_eq_false_iff_eq, beq_eq_false_iff_ne, ne_eq] at c14
                refine .skip ?_
                refine .code ?_
                refine .seq ?_
                refine Wk.rg [0, 1, 2] rfl rfl ?_
                refine lA rfl .no Fx.ag27 (.u rfl) (fun _ => RdN.own .here) (fun _ => (by first | exact State.len | exact State.len.trans State.len.symm | exact Edit.len | exact Edit.len.trans Edit.len.symm | exact nine2_len | exact nine2_len.trans State.len.symm | rfl)) ?_
                refine sw rfl (.u rfl) (.u rfl) rfl Fx.sz27 (.there .here) (by first | exact State.len | exact State.len.trans State.len.symm | exact Edit.len | exact Edit.len.trans Edit.len.symm | exact nine2_len | exact nine2_len.trans State.len.symm | rfl) (State.one') ?_
                refine asg rfl .no (.u rfl) ?_
                refine .nil ?_
                refine .code ?_
                refine .ret ?_
                refine We.fin0 Try.results20 (.cell rfl (fun w hw => run_loadVarN Fx.ag27 (RdN.own .here) ((by first | exact State.len | exact State.len.trans State.len.symm | exact Edit.len | exact Edit.len.trans Edit.len.symm | exact nine2_len | exact nine2_len.trans State.len.symm | rfl)) hw) (.tmp rfl .nil)) ?_
                exact ⟨(mkX e (srtL L2)), (hx5 hR0 hR1 hR2 hR3 hR4), 0, .inr (.inr ⟨hri, rfl, _, by rw [ap_end hok hL hA]; exact chk_eq (EqS.refl _) (by assumption), EqS.refl _⟩), rfl, rfl, hXR⟩

end Go.Proofs.Ytnhdaaggkdegpaa

namespace Go.Proofs.Ytnhdaaggkdegpaa
set_option linter.unusedSimpArgs false
set_option linter.unusedVariables false
open Go.Tan Go.RowKit

namespace FxVeSg
theorem go24 : goFn Try.prog 24 = true := by kernel_rfl
theorem eqt25 : eqT Try.prog 4 25 (gensKs) = true := by kernel_rfl
end FxVeSg
namespace Fx
end Fx
theorem sameS_ok (a b : State) (ha hb : Nat → Sh) (G : PM) (hA : StR G a ha) (hB : StR G b hb) (ga : ∀ i, i < 5 → u64 (a.gens i)) (gb : ∀ i, i < 5 → u64 (b.gens i)) (hl : ∀ i, i < 5 → (a.lv i).length ≤ 100000000000) : Ct Try.prog 22 ([a.val ha, b.val hb] : List Value).toArray G [] (fun _ μ' u => μ' = [] ∧ u = .bool (sameS a b)) := by
  refine Ct.of Try.func22 rfl Try.ntmps22 rfl fun w0 hs0 => ?_
  refine .seq ?_
  refine Wk.rg [0, 1, 2] rfl rfl ?_
  refine bx rfl (.u rfl) rfl ?_; intro b2
  refine bx rfl (.u rfl) rfl ?_; intro b3
  refine asg rfl .no (.u rfl) ?_
  refine .nil ?_
  refine .code ?_
  refine .seq ?_
  refine .seq ?_
  refine Wk.rg [0] rfl rfl ?_
  refine asg rfl .no (.u rfl) ?_
  refine .nil ?_
  refine .code ?_
  refine .block ?_
  refine Wk.lop (α := Nat) (fun k => [(5, true, .int .i64 (k : Int))]) (fun _ => [])
    (fun k Gl => (k ≤ 5) ∧ (∀ i, i < k → sameM (a.lv i) (b.lv i) = true)) (fun k => 5 - k) 0 [(2, true, _), (3, true, _)] [_, _]
    (ESub.cons rfl (by first | rfl | exact evi (by omega)) (ESub.cons rfl rfl (ESub.cons rfl rfl ESub.nil)))
    (MSub.cons .here rfl (MSub.cons .here rfl MSub.nil)) ?_ ?_
  · refine ⟨?_, ?_⟩
    · (try dsimp only) <;> (first | omega | rfl | assumption | (simp; done))
    · (try dsimp only) <;> (exact fun i hi => by omega)
  intro k N0 Gl0 hN0 hGl0 hF0
  try dsimp only at hF0 hN0 ⊢
  obtain ⟨hk, hq⟩ := hF0
  have hA := hA.mono hGl0
  have hB := hB.mono hGl0
  refine .seq ?_
  refine .seq ?_
  refine Wk.rg [0, 1] rfl rfl ?_
  refine mv rfl .no (.u rfl) ?_
  refine cp rfl .no (.u rfl) (.u rfl) rfl ?_
  refine .nil ?_
  refine .code ?_
  refine .cond rfl (fun c1 => ?_) (fun c1 => ?_)
  · have c1k := c1
    try simp only [decide_eq_true_eq, decide_eq_false_iff_not, Int.not_lt, Int.not_le, gt_iff_lt, ge_iff_le, Bool.or_eq_true, Bool.and_eq_true, Bool.or_eq_false_iff, Bool.not_eq_true', Bool.not_eq_false', Int.toNat_natCast, bne_iff_ne, beq_iff_eq, bne_eq_false_iff_eq, beq_eq_false_iff_ne, ne_eq] at c1
    refine .skip ?_
    refine .code ?_
    refine .seq ?_
    refine .block ?_
    refine .seq ?_
    refine Wk.draw (mc := ⟨false, false⟩) [0, 1, 2, 3, 4, 5, 6, 7, 8, 9] Fx.mix (by kernel_rfl) ?_
    refine mv rfl .no (.u rfl) ?_
    refine fz rfl .no Fx.fo27_0 (.u rfl) ?_
    refine iA rfl .no Fx.ar23 (.u rfl) (.u rfl) (fun _ => by omega) (fun _ => by omega) ?_
    refine ld rfl .no Fx.ag22 (.u rfl) (fun _ => Rd.own (.there .here) (a.cell_lv ha (k := k) (by omega))) ?_
    refine mv rfl .no (.u rfl) ?_
    refine fz rfl .no Fx.fo27_0 (.u rfl) ?_
    refine iA rfl .no Fx.ar23 (.u rfl) (.u rfl) (fun _ => by omega) (fun _ => by omega) ?_
    refine ld rfl .no Fx.ag22 (.u rfl) (fun _ => Rd.own .here (b.cell_lv hb (k := k) (by omega))) ?_
    refine kv rfl .no FxVeSg.go24 (Eva.cons (.u rfl) (Eva.cons (.u rfl) Eva.nil)) (fun _ => sameMetas_ok (ha k) (hb k) _ _ _ (hA.lv k (by omega)) (hB.lv k (by omega)) (hA.wf k (by omega)) (hB.wf k (by omega)) (hl k (by omega))) ?_
    refine nt rfl .no (.u rfl) ?_
    refine .nil ?_
    refine .code ?_
    refine .cond rfl (fun c2 => ?_) (fun c2 => ?_)
    · have c2k := c2
      try simp only [decide_eq_true_eq, decide_eq_false_iff_not, Int.not_lt, Int.not_le, gt_iff_lt, ge_iff_le, Bool.or_eq_true, Bool.and_eq_true, Bool.or_eq_false_iff, Bool.not_eq_true', Bool.not_eq_false', Int.toNat_natCast, bne_iff_ne, beq_iff_eq, bne_eq_false_iff_eq, beq_eq_false_iff_ne, ne_eq] at c2
      refine .seq ?_
      refine Wk.rg [0] rfl rfl ?_
      refine asg rfl .no (.u rfl) ?_
      refine .nil ?_
      refine .code ?_
      refine .ret ?_
      refine We.fin0 Try.results22 (.tmp rfl .nil) ?_
      exact ⟨rfl, congrArg Value.bool (sameS_no (i := k) (by omega) (by simpa using c2k)).symm⟩
    · have c2k := c2
      try simp only [decide_eq_true_eq, decide_eq_false_iff_not, Int.not_lt, Int.not_le, gt_iff_lt, ge_iff_le, Bool.or_eq_true, Bool.and_eq_true, Bool.or_eq_false_iff, Bool.not_eq_true', Bool.not_eq_false', Int.toNat_natCast, bne_iff_ne, beq_iff_eq, bne_eq_false_iff_eq, beq_eq_false_iff_ne, ne_eq] at c2
      refine .skip ?_
      refine .blk ?_
      refine .code ?_
      refine Wk.rg [0, 1, 2] rfl rfl ?_
      refine mv rfl .no (.u rfl) ?_
      refine arn (((k + 1) : Nat) : Int) rfl .no (.u rfl) (.u rfl) rfl (fun _ => by omega) (fun _ => wrap_i64 (by omega) (by omega)) ?_
      refine asg rfl .no (.u rfl) ?_
      refine .nil ?_
      refine We.lpo (k + 1) ?_ ?_ ?_ ?_ ?_
      · exact (ESub.cons rfl (by first | rfl | exact evi (by omega)) (ESub.cons rfl rfl (ESub.cons rfl rfl ESub.nil)))
      · exact (MSub.cons .here rfl (MSub.cons .here rfl MSub.nil))
      · first | omega | (dsimp only; omega)
      · exact hGl0
      · refine ⟨?_, ?_⟩
        · (try dsimp only) <;> (first | omega | rfl | assumption | (simp; done))
        · (try dsimp only) <;> (exact fun i hi => by (by_cases e9 : i = k; (subst e9; simpa using c2k); exact hq i (by omega)))
  · have c1k := c1
    try simp only [decide_eq_true_eq, decide_eq_false_iff_not, Int.not_lt, Int.not_le, gt_iff_lt, ge_iff_le, Bool.or_eq_true, Bool.and_eq_true, Bool.or_eq_false_iff, Bool.not_eq_true', Bool.not_eq_false', Int.toNat_natCast, bne_iff_ne, beq_iff_eq, bne_eq_false_iff_eq, beq_eq_false_iff_ne, ne_eq] at c1
    refine .exit ?_
    refine .xcode ?_
    refine .xlp ?_
    refine .xblk ?_
    refine .code ?_
    refine .seq ?_
    refine Wk.rg [0, 1, 2, 3, 4, 5, 6, 7, 8, 9, 10, 11, 12, 13, 14, 15, 16, 17, 18, 19, 20, 21, 22, 23, 24, 25, 26] rfl rfl ?_
    refine fz rfl .no Fx.fo27_1 (.u rfl) ?_
    refine ld rfl .no Fx.ag24 (.u rfl) (fun _ => Rd.own (.there .here) (by first | exact wap_f rfl | rfl)) ?_
    refine fz rfl .no Fx.fo27_1 (.u rfl) ?_
    refine ld rfl .no Fx.ag24 (.u rfl) (fun _ => Rd.own .here (by first | exact wap_f rfl | rfl)) ?_
    refine cp rfl .no (.u rfl) (.u rfl) rfl ?_
    refine mv rfl .no (.u rfl) ?_
    refine fz rfl (.t rfl rfl) Fx.fo27_2 (.u rfl) ?_
    refine ld rfl (.t rfl rfl) Fx.ag24 (.s rfl) (fun hc => Rd.own (.there .here) (by first | exact wap_f rfl | rfl)) ?_
    refine fz rfl (.t rfl rfl) Fx.fo27_2 (.u rfl) ?_
    refine ld rfl (.t rfl rfl) Fx.ag24 (.s rfl) (fun hc => Rd.own .here (by first | exact wap_f rfl | rfl)) ?_
    refine cp rfl (.t rfl rfl) (.s rfl) (.s rfl) rfl ?_
    refine pkA rfl .no (.u rfl) (.s rfl) ?_
    refine mv rfl .no (.u rfl) ?_
    refine fz rfl (.t rfl rfl) Fx.fo27_3 (.u rfl) ?_
    refine ld rfl (.t rfl rfl) Fx.ag24 (.s rfl) (fun hc => Rd.own (.there .here) (by first | exact wap_f rfl | rfl)) ?_
    refine fz rfl (.t rfl rfl) Fx.fo27_3 (.u rfl) ?_
    refine ld rfl (.t rfl rfl) Fx.ag24 (.s rfl) (fun hc => Rd.own .here (by first | exact wap_f rfl | rfl)) ?_
    refine cp rfl (.t rfl rfl) (.s rfl) (.s rfl) rfl ?_
    refine pkA rfl .no (.u rfl) (.s rfl) ?_
    refine mv rfl .no (.u rfl) ?_
    refine fz rfl (.t rfl rfl) Fx.fo27_5 (.u rfl) ?_
    refine lA rfl (.t rfl rfl) Fx.ag25 (.s rfl) (fun _ => RdN.part (n := 5) (cs' := (List.range 5).map fun i => Value.int .u64 (a.gens i)) (.there .here) (rfl)) (fun _ => rfl) ?_
    refine fz rfl (.t rfl rfl) Fx.fo27_5 (.u rfl) ?_
    refine lA rfl (.t rfl rfl) Fx.ag25 (.s rfl) (fun _ => RdN.part (n := 5) (cs' := (List.range 5).map fun i => Value.int .u64 (b.gens i)) .here (rfl)) (fun _ => rfl) ?_
    refine eqC (eqGenS a b) rfl (.t rfl rfl) FxVeSg.eqt25 (.s rfl) (.s rfl) (fun hc => gensS_conf ga) (fun hc => gensS_conf gb) (fun hc => eqGenS_iff) ?_
    refine pkA rfl .no (.u rfl) (.s rfl) ?_
    refine asg rfl .no (.u rfl) ?_
    refine .nil ?_
    refine .code ?_
    refine .ret ?_
    refine We.fin0 Try.results22 (.tmp rfl .nil) ?_
    exact ⟨rfl, congrArg Value.bool (sameS_yes (fun i hi => hq i (by omega))).symm⟩

end Go.Proofs.Ytnhdaaggkdegpaa

namespace Go.Proofs.Ytnhdaaggkdegpaa
set_option linter.unusedSimpArgs false
set_option linter.unusedVariables false
open Go.Tan Go.RowKit

namespace Fx
theorem eqt25 : eqT Try.prog 4 25 (gensKs) = true := by kernel_rfl
theorem go14 : goFn Try.prog 14 = true := by kernel_rfl
end Fx
end Go.Proofs.Ytnhdaaggkdegpaa

namespace Go.Proofs.Ytnhdaaggkdegpaa
set_option linter.unusedSimpArgs false
set_option linter.unusedVariables false
open Go.Tan Go.RowKit

namespace Fx
theorem go22 : goFn Try.prog 22 = true := by kernel_rfl
end Fx
end Go.Proofs.Ytnhdaaggkdegpaa

namespace Go.Proofs.Ytnhdaaggkdegpaa
set_option linter.unusedSimpArgs false
set_option linter.unusedVariables false
open Go.Tan Go.RowKit

theorem count18_ok (s : State) (hd : Nat → Sh) (G : PM) (hs : StR G s hd) : Ct Try.prog 23 ([s.val hd] : List Value).toArray G [] (fun _ μ' u => μ' = [] ∧ u = .int .i64 (tot s 5)) := by
  refine Ct.of Try.func23 rfl Try.ntmps23 rfl fun w0 hs0 => ?_
  refine .seq ?_
  refine Wk.rg [0, 1] rfl rfl ?_
  refine bx rfl (.u rfl) rfl ?_; intro b1
  refine asg rfl .no (.u rfl) ?_
  refine .nil ?_
  refine .code ?_
  refine .seq ?_
  refine Wk.rg [0] rfl rfl ?_
  refine asg rfl .no (.u rfl) ?_
  refine .nil ?_
  refine .code ?_
  refine .seq ?_
  refine .seq ?_
  refine Wk.rg [0] rfl rfl ?_
  refine mv rfl .no (.u rfl) ?_
  refine .nil ?_
  refine .code ?_
  refine .block ?_
  refine Wk.lop (α := Nat) (fun k => [(3, true, .int .i64 (tot s k)), (5, true, .int .i64 (k : Int))]) (fun _ => [])
    (fun k Gl => (k ≤ 5) ∧ (tot s k ≤ (k : Int) * 1300000000000)) (fun k => 5 - k) 0 [(1, true, _)] [_]
    (ESub.cons rfl rfl (ESub.cons rfl (by first | rfl | exact evi (by omega)) (ESub.cons rfl rfl ESub.nil)))
    (MSub.cons .here rfl MSub.nil) ?_ ?_
  · refine ⟨?_, ?_⟩
    · (try dsimp only) <;> (first | omega | rfl | assumption | (simp; done))
    · (try dsimp only) <;> (exact Int.le_refl _)
  intro k N0 Gl0 hN0 hGl0 hF0
  try dsimp only at hF0 hN0 ⊢
  obtain ⟨hk, ht⟩ := hF0
  have hs := hs.mono hGl0
  refine .seq ?_
  refine Wk.rg [0] rfl rfl ?_
  refine cp rfl .no (.u rfl) (.u rfl) rfl ?_
  refine .nil ?_
  refine .code ?_
  refine .seq ?_
  refine .cond rfl (fun c1 => ?_) (fun c1 => ?_)
  · have c1k := c1
    try simp only [decide_eq_true_eq, decide_eq_false_iff_not, Int.not_lt, Int.not_le, gt_iff_lt, ge_iff_le, Bool.or_eq_true, Bool.and_eq_true, Bool.or_eq_false_iff, Bool.not_eq_true', Bool.not_eq_false', Int.toNat_natCast, bne_iff_ne, beq_iff_eq, bne_eq_false_iff_eq, beq_eq_false_iff_ne, ne_eq] at c1
    refine .skip ?_
    refine .code ?_
    refine .seq ?_
    refine .block ?_
    refine .seq ?_
    refine Wk.rg [0, 1] rfl rfl ?_
    refine mv rfl .no (.u rfl) ?_
    refine asg rfl .no (.u rfl) ?_
    refine .nil ?_
    refine .code ?_
    refine Wk.rg [0, 1, 2, 3, 4, 5, 6, 7] rfl rfl ?_
    have hlv := hs.lv k (by omega)
    have hln := hs.len k (by omega)
    have hn0 := tot_nonneg s k
    refine mv rfl .no (.u rfl) ?_
    refine mv rfl .no (.u rfl) ?_
    refine fz rfl .no Fx.fo27_0 (.u rfl) ?_
    refine iA rfl .no Fx.ar23 (.u rfl) (.u rfl) (fun _ => by omega) (fun _ => by omega) ?_
    refine ld rfl .no Fx.ag22 (.u rfl) (fun _ => Rd.own .here (s.cell_lv hd (k := k) (by omega))) ?_
    refine ln rfl .no Fx.sn22 (.u rfl) ?_
    refine ar rfl .no (.u rfl) (.u rfl) rfl (fun _ => wrap_i64 (by omega) (by omega)) ?_
    refine asg rfl .no (.u rfl) ?_
    refine .nil ?_
    refine .blk ?_
    refine .code ?_
    refine Wk.rg [0, 1] rfl rfl ?_
    refine arn (((k + 1) : Nat) : Int) rfl .no (.u rfl) (.u rfl) rfl (fun _ => by omega) (fun _ => wrap_i64 (by omega) (by omega)) ?_
    refine mv rfl .no (.u rfl) ?_
    refine .nil ?_
    refine We.lpo (k + 1) ?_ ?_ ?_ ?_ ?_
    · exact (ESub.cons rfl rfl (ESub.cons rfl (by first | rfl | exact evi (by omega)) (ESub.cons rfl rfl ESub.nil)))
    · exact (MSub.cons .here rfl MSub.nil)
    · first | omega | (dsimp only; omega)
    · exact hGl0
    · refine ⟨?_, ?_⟩
      · (try dsimp only) <;> (first | omega | rfl | assumption | (simp; done))
      · (try dsimp only) <;> (simp only [tot]; omega)
  · have c1k := c1
    try simp only [decide_eq_true_eq, decide_eq_false_iff_not, Int.not_lt, Int.not_le, gt_iff_lt, ge_iff_le, Bool.or_eq_true, Bool.and_eq_true, Bool.or_eq_false_iff, Bool.not_eq_true', Bool.not_eq_false', Int.toNat_natCast, bne_iff_ne, beq_iff_eq, bne_eq_false_iff_eq, beq_eq_false_iff_ne, ne_eq] at c1
    refine .exit ?_
    refine .xcode ?_
    refine .xlp ?_
    refine .xblk ?_
    refine .code ?_
    refine .seq ?_
    refine Wk.rg [0, 1] rfl rfl ?_
    refine mv rfl .no (.u rfl) ?_
    refine asg rfl .no (.u rfl) ?_
    refine .nil ?_
    refine .code ?_
    refine .ret ?_
    refine We.fin0 Try.results23 (.tmp rfl .nil) ?_
    obtain rfl : k = 5 := by omega
    exact ⟨rfl, rfl⟩

end Go.Proofs.Ytnhdaaggkdegpaa

namespace Go.Tan
open Go.RowKit
section
variable {P : Program} {n : Nat} {l : List Oper} {K K' : Env → PM → Mem → Prop} {mc : Md}
theorem Sat.nil {G : PM} {w : World} (h : ∀ b o, G b = some o → w.heap[b]? = some o) : Sat G [] w := ⟨h, by simp, by simp [keys], by simp [keys]⟩
/-- a later operation, brought ahead of a value that it does not look at -/
theorem Wo.unlay {j : Nat} {ρ : Env} {G : PM} {μ : Mem} {oi oj : Oper} {c : Bool} {v : Value} (hK : KOk K) (hoj : nth l j = some oj) (hap : Apart l oi oj) (hd : dstOk n oi.dst)
    (H : Wo true mc P n l K [j] (lay ρ oi.dst c v) G μ) : Wo true mc P n l (fun ρ' G' μ' => PM.le G G' ∧ (∃ c' v', ρ' = lay ρ oj.dst c' v') ∧ K (lay ρ' oi.dst c v) G' μ') [j] ρ G μ := by
  have h0 : ∀ {ρ G μ}, Wo true mc P n l K [] ρ G μ → K ρ G μ := fun h => by cases h with | nil h => exact h
  have sw : ∀ {c' : Bool} {v' : Value} {G' : PM} {μ' : Mem}, Wo true mc P n l K [] (lay (lay ρ oi.dst c v) oj.dst c' v') G' μ' → K (lay (lay ρ oj.dst c' v') oi.dst c v) G' μ' := fun h => hK.1 _ _ _ _ (look_swap hap.dd) (h0 h)
  cases H with
  | @pure _ _ _ _ _ o cj vj ho hk hg hr h =>
    obtain rfl : oj = o := Option.some.inj (hoj.symm.trans ho)
    refine .pure hoj hk (gd_drop hap.ij hg) (fun hc a w ha => drop_put hd hap.sj hap.ij (Φ := fun s => s.run P w = .ok (.value vj) w) (fun a ha => hr hc a w ha) a ha) (.nil ⟨PM.le.refl G, ⟨_, _, rfl⟩, sw h⟩)
  | @read _ _ _ _ _ o cj vj ho hk hg hr h =>
    obtain rfl : oj = o := Option.some.inj (hoj.symm.trans ho)
    refine .read hoj hk (gd_drop hap.ij hg) (fun hc a w ha hs => drop_put hd hap.sj hap.ij (Φ := fun s => s.run P w = .ok (.value vj) w) (fun a ha => hr hc a w ha hs) a ha) (.nil ⟨PM.le.refl G, ⟨_, _, rfl⟩, sw h⟩)
  | @make _ _ _ _ _ o ob mkv ho hk hg hr h =>
    obtain rfl : oj = o := Option.some.inj (hoj.symm.trans ho)
    exact .make hoj hk hg hr fun b => .nil ⟨PM.le.refl G, ⟨_, _, rfl⟩, sw (h b)⟩
  | @box _ _ _ _ _ o ob mkv ho hk hg hr h =>
    obtain rfl : oj = o := Option.some.inj (hoj.symm.trans ho)
    exact .box hoj hk hg (fun a w ha => drop_put hd hap.sj hap.ij (Φ := fun s => s.run P w = .ok (.value (mkv w.heap.size)) (w.alloc ob)) (fun a ha => hr a w ha) a ha) fun b => .nil ⟨PM.le.refl G, ⟨_, _, rfl⟩, sw (h b)⟩
  | @callv _ _ _ _ _ o cj f args vj Gp ho hk hg hr hf h =>
    obtain rfl : oj = o := Option.some.inj (hoj.symm.trans ho)
    exact .callv hoj hk (gd_drop hap.ij hg) (fun hc a w ha => drop_put hd hap.sj hap.ij (Φ := fun s => s.run P w = .ok (.enter f args) w) (fun a ha => hr hc a w ha) a ha) hf (.nil ⟨PM.le.refl G, ⟨_, _, rfl⟩, sw h⟩)
  | @call _ _ _ _ _ o f args post ho hk hg hr hf h =>
    obtain rfl : oj = o := Option.some.inj (hoj.symm.trans ho)
    exact .call hoj hk (gd_drop hap.ij hg) (fun a w ha => drop_put hd hap.sj hap.ij (Φ := fun s => s.run P w = .ok (.enter f args) w) (fun a ha => hr a w ha) a ha) hf fun v' G' μ' hle hp => .nil ⟨hle, ⟨_, _, rfl⟩, sw (h v' G' μ' hle hp)⟩
  | callg hdf _ _ _ _ _ => cases hdf
  | @fresh _ _ _ _ _ o μ₁ μ₂ post ho hk hg hp hr hw h =>
    obtain rfl : oj = o := Option.some.inj (hoj.symm.trans ho)
    exact .fresh hoj hk hg hp (fun a w ha hs => drop_put hd hap.sj hap.ij (Φ := fun s => ∃ v w' G' μa μb, s.run P w = .ok (.value v) w' ∧ Tr G (keys μ₁) w G' (μa ++ μb) w' ∧ post G' μa μb v) (fun a ha => hr a w ha hs) a ha) hw fun v' G' μa μb hle hq => .nil ⟨hle, ⟨_, _, rfl⟩, sw (h v' G' μa μb hle hq)⟩
  | @act _ _ _ _ _ o μ₁ μ₂ post ho hk hg hp hr h =>
    obtain rfl : oj = o := Option.some.inj (hoj.symm.trans ho)
    exact .act hoj hk (gd_drop hap.ij hg) hp (fun a w ha hs => drop_put hd hap.sj hap.ij (Φ := fun s => (∃ v w' G' μ', (s.run P w = .ok (.value v) w' ∨ s.run P w = .ok .skip w' ∧ v = undef) ∧ Tr G (keys μ₁) w G' μ' w' ∧ post G' μ' v) ∨
        (∃ f args, s.run P w = .ok (.enter f args) w ∧ Ct P f args G μ₁ post)) (fun a ha => hr a w ha hs) a ha) fun v' G' μ' hle hq => .nil ⟨hle, ⟨_, _, rfl⟩, sw (h v' G' μ' hle hq)⟩
/-- May a read of memory that stays go ahead of all that is left? -/
def oneP (mc : Md) (l : List Oper) (listed : Array Bool) (i : Nat) : Bool :=
  (rdy l listed).contains i && match nth l i with
  | some oi => (kindOf mc oi.op == .read) && (List.range l.length).all fun j => listed.getD j true || j == i || match nth l j with
    | some oj => dep l l.length j i || oi.apart l.toArray oj
    | none => false
  | none => false
/-- what a read of memory that stays tells -/
def PRd (P : Program) (n : Nat) (l : List Oper) (o : Oper) (c : Bool) (v : Value) (ρ : Env) (G : PM) : Prop :=
  Gd l ρ o.guard c ∧ (c = true → ∀ a w, Ag n ρ a → (∀ b u, G b = some u → w.heap[b]? = some u) → (execOp a.eval o).run P w = .ok (.value v) w)
def Wp (mc : Md) (P : Program) (n : Nat) (l : List Oper) (K : Env → PM → Mem → Prop) : Nat → Array Bool → Env → PM → Mem → Prop
  | 0, listed, ρ, G, μ => rdy l listed = [] ∧ K ρ G μ
  | m + 1, listed, ρ, G, μ => (∃ i, oneOk mc l listed i = true ∧ Wo true mc P n l (fun ρ' G' μ' => Wp mc P n l K m (listed.setIfInBounds i true) ρ' G' μ') [i] ρ G μ) ∨
      (rdy l listed ≠ [] ∧ ∀ j ∈ rdy l listed, Wo true mc P n l (fun ρ' G' μ' => Wp mc P n l K m (listed.setIfInBounds j true) ρ' G' μ') [j] ρ G μ) ∨
      (∃ i o c v, oneP mc l listed i = true ∧ nth l i = some o ∧ PRd P n l o c v ρ G ∧ Wp mc P n l K m (listed.setIfInBounds i true) (lay ρ o.dst c v) G μ)
theorem PRd.congr {o : Oper} {c : Bool} {v : Value} {ρ ρ' : Env} {G : PM} (h : PRd P n l o c v ρ G) (e : ∀ i, look ρ i = look ρ' i) : PRd P n l o c v ρ' G :=
  ⟨h.1.congr fun _ t _ _ _ => e t, fun hc a w ha hs => h.2 hc a w (ha.congr e) hs⟩
theorem Wp.kok (hK : KOk K) : ∀ (m : Nat) (listed : Array Bool), KOk (fun ρ G μ => Wp mc P n l K m listed ρ G μ)
  | 0, listed => ⟨fun ρ ρ' G μ e h => ⟨h.1, hK.1 _ _ _ _ e h.2⟩, fun ρ G μ μ' p h => ⟨h.1, hK.2 _ _ _ _ p h.2⟩⟩
  | m + 1, listed => by
    refine ⟨fun ρ ρ' G μ e h => ?_, fun ρ G μ μ' p h => ?_⟩
    · rcases h with ⟨i, h1, h2⟩ | ⟨h1, h2⟩ | ⟨i, o, c, v, h1, h2, h3, h4⟩
      · exact .inl ⟨i, h1, h2.congr (Wp.kok hK m _) e⟩
      · exact .inr (.inl ⟨h1, fun j hj => (h2 j hj).congr (Wp.kok hK m _) e⟩)
      · exact .inr (.inr ⟨i, o, c, v, h1, h2, h3.congr e, (Wp.kok hK m _).1 _ _ _ _ (look_lay_congr e _ _ _) h4⟩)
    · rcases h with ⟨i, h1, h2⟩ | ⟨h1, h2⟩ | ⟨i, o, c, v, h1, h2, h3, h4⟩
      · exact .inl ⟨i, h1, h2.perm (Wp.kok hK m _) p⟩
      · exact .inr (.inl ⟨h1, fun j hj => (h2 j hj).perm (Wp.kok hK m _) p⟩)
      · exact .inr (.inr ⟨i, o, c, v, h1, h2, h3, (Wp.kok hK m _).2 _ _ _ _ p h4⟩)
theorem oneP_mono {listed : Array Bool} {i j : Nat} (hne : i ≠ j) (h : oneP mc l listed i = true) : oneP mc l (listed.setIfInBounds j true) i = true := by
  unfold oneP at h ⊢
  simp only [Bool.and_eq_true] at h ⊢
  obtain ⟨h1, h2⟩ := h
  refine ⟨by simpa using rdy_mono (by simpa using h1) hne, ?_⟩
  cases hi : nth l i with
  | none => rw [hi] at h2; cases h2
  | some oi =>
    simp only [hi, Bool.and_eq_true] at h2 ⊢
    refine ⟨h2.1, List.all_eq_true.2 fun k hk => ?_⟩
    have h3 := List.all_eq_true.1 h2.2 k hk
    by_cases e : j = k
    · subst e
      have : (listed.setIfInBounds j true).getD j true = true := by
        rcases Nat.lt_or_ge j listed.size with h' | h' <;> simp [h']
      rw [this]; rfl
    · rw [getD_set_ne true e]; exact h3
theorem Wp.front (hK : KOk K) (hs : Region.noSelect l.toArray = true) (hmk : ∀ j oj, nth l j = some oj → kindOf mc oj.op = .make → Makes P oj) (hds : ∀ j oj, nth l j = some oj → dstOk n oj.dst) :
    ∀ (m : Nat) (listed : Array Bool) (j : Nat) (ρ : Env) (G : PM) (μ : Mem), unlN listed = m + 1 → Closed l listed → j ∈ rdy l listed → Wp mc P n l K (m + 1) listed ρ G μ → Wo true mc P n l (fun ρ' G' μ' => Wp mc P n l K m (listed.setIfInBounds j true) ρ' G' μ') [j] ρ G μ
  | m, listed, j, ρ, G, μ, hu, hcl, hj, H => by
    rcases H with ⟨i, h1, h2⟩ | ⟨_, h2⟩ | ⟨i, oi, c, v, h1, hoi, h2, h3⟩
    · by_cases e : j = i
      · subst e; exact h2
      · have hi : i ∈ rdy l listed := by unfold oneOk at h1; simp only [Bool.and_eq_true] at h1; simpa using h1.1
        have hj' := rdy_mono hj e
        have hiun := (rdy_iff.1 hi).1
        have hjun := (rdy_iff.1 hj).1
        have hu1 := unlN_set hiun
        have hjun' : (listed.setIfInBounds i true).getD j true = false := by rw [getD_set_ne true (Ne.symm e)]; exact hjun
        have hp := unlN_pos hjun'
        obtain ⟨m', rfl⟩ : ∃ m', m = m' + 1 := ⟨m - 1, by omega⟩
        obtain ⟨_, oi, hoi, _⟩ := rdy_iff.1 hi
        obtain ⟨_, oj, hoj, _⟩ := rdy_iff.1 hj
        have h3 : Wo true mc P n l (fun ρ' G' μ' => Wp mc P n l K m' ((listed.setIfInBounds i true).setIfInBounds j true) ρ' G' μ') (i :: [j]) ρ G μ :=
          h2.bind1 fun ρ' G' μ' h => Wp.front hK hs hmk hds m' (listed.setIfInBounds i true) j ρ' G' μ' (by omega) (hcl.set hi) hj' h
        have hnoe := not_dep hcl hiun hj l.length
        have hjl : j < l.length := by
          have := (nth_eq l j).trans hoj
          exact (by simpa using (Array.getElem?_eq_some_iff.1 this).1)
        have h1' := h1
        unfold oneOk at h1'
        simp only [Bool.and_eq_true, hoi] at h1'
        obtain ⟨_, hki, hall⟩ := h1'
        have h4 := List.all_eq_true.1 hall j (List.mem_range.2 hjl)
        simp only [hjun, hoj, hnoe, Bool.false_or, Bool.or_eq_true, beq_iff_eq, e, false_or, Bool.and_eq_true, bne_iff_ne] at h4
        simp only [Bool.or_eq_true, beq_iff_eq] at hki
        have hkk : kindOf mc oi.op = .pure ∨ (kindOf mc oi.op = .read ∧ kindOf mc oj.op ≠ .act) ∨ kindOf mc oj.op = .make := by
          rcases hki with h5 | h5
          · exact .inl h5
          · rcases h4.2 with h6 | h6
            · exact .inl h6
            · exact .inr (.inl ⟨h5, h6⟩)
        have h5 := Wo.swap (Wp.kok hK m' _) rfl hoi hoj (apart_of hs hoi hoj h4.1) hds (hmk j oj hoj) hkk h3
        refine h5.cut1.bind1 fun ρ' G' μ' h => .nil (.inl ⟨i, oneOk_mono (Ne.symm e) h1, ?_⟩)
        rw [Array.setIfInBounds_comm _ _ e]
        exact h
    · exact h2 j hj
    · by_cases e : j = i
      · subst e
        have hkr : kindOf mc oi.op = .read := by
          unfold oneP at h1; simp only [Bool.and_eq_true, hoi, beq_iff_eq] at h1; exact h1.2.1
        exact .read hoi (.inl hkr) h2.1 (fun hc a w ha hs => h2.2 hc a w ha hs.sub) (.nil h3)
      · have hi : i ∈ rdy l listed := by unfold oneP at h1; simp only [Bool.and_eq_true] at h1; simpa using h1.1
        have hj' := rdy_mono hj e
        have hiun := (rdy_iff.1 hi).1
        have hjun := (rdy_iff.1 hj).1
        have hu1 := unlN_set hiun
        have hjun' : (listed.setIfInBounds i true).getD j true = false := by rw [getD_set_ne true (Ne.symm e)]; exact hjun
        have hp := unlN_pos hjun'
        obtain ⟨m', rfl⟩ : ∃ m', m = m' + 1 := ⟨m - 1, by omega⟩
        obtain ⟨_, oj, hoj, _⟩ := rdy_iff.1 hj
        have hnoe := not_dep hcl hiun hj l.length
        have hjl : j < l.length := by
          have := (nth_eq l j).trans hoj
          exact (by simpa using (Array.getElem?_eq_some_iff.1 this).1)
        have h1' := h1
        unfold oneP at h1'
        simp only [Bool.and_eq_true, hoi] at h1'
        obtain ⟨_, _, hall⟩ := h1'
        have h4 := List.all_eq_true.1 hall j (List.mem_range.2 hjl)
        simp only [hjun, hoj, hnoe, Bool.false_or, Bool.or_eq_true, beq_iff_eq, e, false_or] at h4
        have hap := apart_of hs hoi hoj h4
        have h5 := Wp.front hK hs hmk hds m' (listed.setIfInBounds i true) j _ G μ (by omega) (hcl.set hi) hj' h3
        refine (Wo.unlay (Wp.kok hK m' _) hoj hap (hds i oi hoi) h5).bind1 fun ρ' G' μ' ⟨hle, ⟨c', v', hρ⟩, h⟩ => .nil (.inr (.inr ⟨i, oi, c, v, oneP_mono (Ne.symm e) h1, hoi, ?_, ?_⟩))
        · subst hρ
          refine ⟨gd_put hap.ji h2.1, fun hc a w ha hs => ?_⟩
          exact keep_put (hds j oj hoj) hap.si hap.ji (Φ := fun s => s.run P w = .ok (.value v) w) (fun a ha => h2.2 hc a w ha (fun b u hb => hs b u (hle b u hb))) a ha
        · rw [Array.setIfInBounds_comm _ _ e]
          exact h
theorem Wp.any {Q : Exit → Act → World → Prop} {G0 : PM} {K0 : List Nat} {w0 : World} (hK : KOk K) (hs : Region.noSelect l.toArray = true) (hmk : ∀ j oj, nth l j = some oj → kindOf mc oj.op = .make → Makes P oj) (hds : ∀ j oj, nth l j = some oj → dstOk n oj.dst)
    (hQ : ∀ ρ G μ, K ρ G μ → ∀ a w, Ag n ρ a → Tr G0 K0 w0 G μ w → Q .normal a w) :
    ∀ (m : Nat) (listed : Array Bool) (ρ : Env) (G : PM) (μ : Mem) (a : Act) (w : World), unlN listed = m → Closed l listed → Wp mc P n l K m listed ρ G μ → Ag n ρ a → Tr G0 K0 w0 G μ w → wpAny P .any l.toArray Q m listed a w
  | 0, listed, ρ, G, μ, a, w, _, _, H, ha, ht => ⟨H.1, hQ _ _ _ H.2 a w ha ht⟩
  | m + 1, listed, ρ, G, μ, a, w, hu, hcl, H, ha, ht => by
    refine ⟨fun h0 => ?_, fun j hj => ?_⟩
    · rcases H with ⟨i, h1, _⟩ | ⟨h1, _⟩ | ⟨i, oi, c, v, h1, _⟩
      · have hi : i ∈ rdy l listed := by unfold oneOk at h1; simp only [Bool.and_eq_true] at h1; simpa using h1.1
        unfold rdy at hi
        rw [h0] at hi; cases hi
      · exact absurd h0 h1
      · have hi : i ∈ rdy l listed := by unfold oneP at h1; simp only [Bool.and_eq_true] at h1; simpa using h1.1
        unfold rdy at hi
        rw [h0] at hi; cases hi
    · have hj' : j ∈ rdy l listed := hj
      have hu1 := unlN_set (rdy_iff.1 hj').1
      obtain ⟨o, ho, h⟩ := (Wp.front hK hs hmk hds m listed j ρ G μ hu hcl hj' H).head ha ht (next := wpAny P .any l.toArray Q m (listed.setIfInBounds j true)) (Q := Q) hds
        (fun ρ' G' μ' a' w' H' ha' ht' => by cases H' with | nil h => exact Wp.any hK hs hmk hds hQ m _ ρ' G' μ' a' w' (by omega) (hcl.set hj') h ha' ht')
      simp only [wpOp, nth_eq, ho]
      split
      · rename_i hw; rw [if_pos hw] at h; exact .inl h
      · rename_i hw; rw [if_neg hw] at h; exact h
theorem Wk.mixp {X : Cx} {k : List KI} {id : Nat} {ρ : Env} {G : PM} {μ : Mem} (mc : Md) (hm : X.P.follows .mixedOrders = true) (hok : mixOk X.P X.n l = true)
    (h : Wp mc X.P X.n l (fun ρ G μ => We X .normal k ρ G μ) l.length (Array.replicate l.length false) ρ G μ) : Wk X (.region id l.toArray true) k ρ G μ := by
  simp only [mixOk, Bool.and_eq_true] at hok
  obtain ⟨⟨h1, h2⟩, h3⟩ := hok
  refine ⟨fun a w ha ht => wp_region_any hm ?_⟩
  have hu : unlN (Array.replicate l.length false) = l.length := by simp [unlN]
  have := Wp.any (Q := Qof X k) (We.kok .normal) h1 (fun j oj hj hk => makes_of hk (List.all_eq_true.1 h3 oj (mem_of_nth hj)))
    (fun j oj hj => by
      have := List.all_eq_true.1 h2 oj (mem_of_nth hj)
      cases hd : oj.dst with
      | none => trivial
      | some d => rw [hd] at this; show d < X.n; exact of_decide_eq_true this) (fun _ _ _ h a w ha ht => h.out a w ha ht) l.length _ ρ G μ a _ hu (Closed.none l.length) h ha ht.drew
  simpa using this
variable {ρ : Env} {G : PM} {μ : Mem} {m : Nat} {listed : Array Bool}
theorem Wp.last (hr : rdy l listed = []) (h : K ρ G μ) : Wp mc P n l K 0 listed ρ G μ := ⟨hr, h⟩
theorem Wp.one (i : Nat) (hc : oneOk mc l listed i = true) (h : Wo true mc P n l (fun ρ' G' μ' => Wp mc P n l K m (listed.setIfInBounds i true) ρ' G' μ') [i] ρ G μ) : Wp mc P n l K (m + 1) listed ρ G μ := .inl ⟨i, hc, h⟩
theorem Wp.pr (i : Nat) (hc : oneP mc l listed i = true) (h : Wo true mc P n l (fun ρ' G' μ' => (G' = G ∧ μ' = []) ∧ Wp mc P n l K m (listed.setIfInBounds i true) ρ' G μ) [i] ρ G []) : Wp mc P n l K (m + 1) listed ρ G μ := by
  have h1 := hc
  unfold oneP at h1
  simp only [Bool.and_eq_true] at h1
  cases hoi : nth l i with
  | none => rw [hoi] at h1; cases h1.2
  | some oi =>
    have hkr : kindOf mc oi.op = .read := by simp only [hoi, Bool.and_eq_true, beq_iff_eq] at h1; exact h1.2.1
    cases h with
    | @read _ _ _ _ _ o c v ho hk hg hr h =>
      obtain rfl : oi = o := Option.some.inj (hoi.symm.trans ho)
      cases h with
      | nil h => exact .inr (.inr ⟨i, oi, c, v, hc, hoi, ⟨hg, fun hc' a w ha hs => hr hc' a w ha (Sat.nil hs)⟩, h.2⟩)
    | @pure _ _ _ _ _ o cj vj ho hk _ _ _ => obtain rfl : oi = o := Option.some.inj (hoi.symm.trans ho); rcases hk with hk | hk <;> simp_all
    | @make _ _ _ _ _ o _ _ ho hk _ _ _ => obtain rfl : oi = o := Option.some.inj (hoi.symm.trans ho); rcases hk with hk | hk <;> simp_all
    | @box _ _ _ _ _ o _ _ ho hk _ _ _ => obtain rfl : oi = o := Option.some.inj (hoi.symm.trans ho); rcases hk with hk | hk <;> simp_all
    | @callv _ _ _ _ _ o cj f args vj Gp ho hk _ _ _ _ => obtain rfl : oi = o := Option.some.inj (hoi.symm.trans ho); rcases hk with hk | hk | hk <;> simp_all
    | @call _ _ _ _ _ o f args post ho hk _ _ _ _ => obtain rfl : oi = o := Option.some.inj (hoi.symm.trans ho); rcases hk with hk | hk | hk <;> simp_all
    | callg hdf _ _ _ _ _ => cases hdf
    | @fresh _ _ _ _ _ o μ₁ μ₂ post ho hk _ _ _ _ _ => obtain rfl : oi = o := Option.some.inj (hoi.symm.trans ho); rcases hk with hk | hk <;> simp_all
    | @act _ _ _ _ _ o μ₁ μ₂ post ho hk _ _ _ _ => obtain rfl : oi = o := Option.some.inj (hoi.symm.trans ho); rcases hk with hk | hk <;> simp_all
theorem Wp.b1 (j : Nat) (hr : rdy l listed = [j]) (h : Wo true mc P n l (fun ρ' G' μ' => Wp mc P n l K m (listed.setIfInBounds j true) ρ' G' μ') [j] ρ G μ) : Wp mc P n l K (m + 1) listed ρ G μ :=
  .inr (.inl ⟨by rw [hr]; simp, fun j' hj' => by rw [hr] at hj'; obtain rfl := List.mem_singleton.1 hj'; exact h⟩)
theorem Wp.b2 (j j2 : Nat) (hr : rdy l listed = [j, j2]) (h : Wo true mc P n l (fun ρ' G' μ' => Wp mc P n l K m (listed.setIfInBounds j true) ρ' G' μ') [j] ρ G μ)
    (h2 : Wo true mc P n l (fun ρ' G' μ' => Wp mc P n l K m (listed.setIfInBounds j2 true) ρ' G' μ') [j2] ρ G μ) : Wp mc P n l K (m + 1) listed ρ G μ :=
  .inr (.inl ⟨by rw [hr]; simp, fun j' hj' => by
    rw [hr] at hj'
    rcases List.mem_cons.1 hj' with rfl | hj'
    · exact h
    · obtain rfl := List.mem_singleton.1 hj'; exact h2⟩)
theorem Wp.b3 (j j2 j3 : Nat) (hr : rdy l listed = [j, j2, j3]) (h : Wo true mc P n l (fun ρ' G' μ' => Wp mc P n l K m (listed.setIfInBounds j true) ρ' G' μ') [j] ρ G μ)
    (h2 : Wo true mc P n l (fun ρ' G' μ' => Wp mc P n l K m (listed.setIfInBounds j2 true) ρ' G' μ') [j2] ρ G μ) (h3 : Wo true mc P n l (fun ρ' G' μ' => Wp mc P n l K m (listed.setIfInBounds j3 true) ρ' G' μ') [j3] ρ G μ) : Wp mc P n l K (m + 1) listed ρ G μ :=
  .inr (.inl ⟨by rw [hr]; simp, fun j' hj' => by
    rw [hr] at hj'
    rcases List.mem_cons.1 hj' with rfl | hj'
    · exact h
    · rcases List.mem_cons.1 hj' with rfl | hj'
      · exact h2
      · obtain rfl := List.mem_singleton.1 hj'; exact h3⟩)
end
end Go.Tan

namespace Go.Proofs.Ytnhdaaggkdegpaa
set_option linter.unusedSimpArgs false
set_option linter.unusedVariables false
open Go.Tan Go.RowKit

namespace Fx
theorem go23 : goFn Try.prog 23 = true := by kernel_rfl
theorem bp32_0_1_2_3_4 : bPl Try.prog 32 [0, 1, 2, 3, 4] = some (nine (fun _ => 0) ++ [.slice none 0 0, .slice none 0 0], [(0, 1), (1, 1), (2, 1), (3, 1), (4, 5)]) := by kernel_rfl
theorem sz25 : szT Try.prog 25 = some 5 := by kernel_rfl
theorem co48 : Try.prog.cellsOf 48 = 40 := by kernel_rfl
theorem co27 : Try.prog.cellsOf 27 = 14 := by kernel_rfl
theorem co32 : Try.prog.cellsOf 32 = 11 := by kernel_rfl
theorem co51 : Try.prog.cellsOf 51 = 2 := by kernel_rfl
theorem co3 : Try.prog.cellsOf 3 = 1 := by kernel_rfl
theorem co24 : Try.prog.cellsOf 24 = 1 := by kernel_rfl
theorem co9 : Try.prog.cellsOf 9 = 1 := by kernel_rfl
theorem co23 : Try.prog.cellsOf 23 = 5 := by kernel_rfl
theorem co25 : Try.prog.cellsOf 25 = 5 := by kernel_rfl
theorem co46 : Try.prog.cellsOf 46 = 32 := by kernel_rfl
theorem co22 : Try.prog.cellsOf 22 = 1 := by kernel_rfl
theorem co30 : Try.prog.cellsOf 30 = 1 := by kernel_rfl
theorem co5 : Try.prog.cellsOf 5 = 1 := by kernel_rfl
end Fx
set_option maxHeartbeats 800000 in
theorem VersionKeeps_ok (s : State) (hd : Nat → Sh) (e : Edit) (ha he : Sh) (G : PM) (hs : StR G s hd) (hE : EdR G e ha he) (hgs : ∀ i, i < 5 → u64 (s.gens i)) : Ct Try.prog 7 ([s.val hd, e.val ha he] : List Value).toArray G [] (fun _ μ' u => μ' = [] ∧ u = .bool true) := by
  refine Ct.of Try.func7 rfl Try.ntmps7 rfl fun w0 hs0 => ?_
  have hea := hE.add; have hed := hE.drop
  refine .seq ?_
  refine Wk.rg [0, 1, 2] rfl rfl ?_
  refine bx rfl (.u rfl) rfl ?_; intro b2
  refine bx rfl (.u rfl) rfl ?_; intro b3
  refine asg rfl .no (.u rfl) ?_
  refine .nil ?_
  refine .code ?_
  refine .seq ?_
  refine Wk.rg [0, 1] rfl rfl ?_
  refine kv rfl .no Fx.go10 Eva.nil (fun _ => shown18_ok _) ?_
  refine asg rfl .no (.u rfl) ?_
  refine .nil ?_
  refine .code ?_
  refine .seq ?_
  refine .seq ?_
  refine Wk.rg [0, 1, 2, 3, 4, 5, 6, 7] rfl rfl ?_
  refine lA rfl .no Fx.ag27 (.u rfl) (fun _ => RdN.own (.there .here)) (fun _ => (by first | exact State.len | exact State.len.trans State.len.symm | exact Edit.len | exact Edit.len.trans Edit.len.symm | exact nine2_len | exact nine2_len.trans State.len.symm | rfl)) ?_
  refine kv rfl .no Fx.go11 (Eva.cons (.u rfl) Eva.nil) (fun _ => light_ok s hd _ hs) ?_
  refine nt rfl .no (.u rfl) ?_
  refine mv rfl .no (.u rfl) ?_
  refine lA rfl (.f rfl rfl) Fx.ag32 (.u rfl) (fun _ => RdN.own .here) (fun _ => (by first | exact State.len | exact State.len.trans State.len.symm | exact Edit.len | exact Edit.len.trans Edit.len.symm | exact nine2_len | exact nine2_len.trans State.len.symm | rfl)) ?_
  refine kv rfl (.f rfl rfl) Fx.go14 (Eva.cons (.s rfl) Eva.nil) (fun hc => few_ok e ha he _) ?_
  refine nt rfl (.f rfl rfl) (.s rfl) ?_
  refine pkO rfl .no (.u rfl) (.s rfl) ?_
  refine .nil ?_
  refine .code ?_
  refine .cond rfl (fun c1 => ?_) (fun c1 => ?_)
  · have c1k := c1
    try simp only [decide_eq_true_eq, decide_eq_false_iff_not, Int.not_lt, Int.not_le, gt_iff_lt, ge_iff_le, Bool.or_eq_true, Bool.and_eq_true, Bool.or_eq_false_iff, Bool.and_eq_false_iff, Bool.not_eq_true', Bool.not_eq_false', Int.toNat_natCast, bne_iff_ne, beq_iff_eq, bne_eq_false_iff_eq, beq_eq_false_iff_ne, ne_eq] at c1
    refine .seq ?_
    refine Wk.rg [0, 1] rfl rfl ?_
    refine mv rfl .no (.u rfl) ?_
    refine asg rfl .no (.u rfl) ?_
    refine .nil ?_
    refine .code ?_
    refine .ret ?_
    refine We.fin0 Try.results7 (.tmp rfl .nil) ?_
    exact ⟨rfl, rfl⟩
  · have c1k := c1
    try simp only [decide_eq_true_eq, decide_eq_false_iff_not, Int.not_lt, Int.not_le, gt_iff_lt, ge_iff_le, Bool.or_eq_true, Bool.and_eq_true, Bool.or_eq_false_iff, Bool.and_eq_false_iff, Bool.not_eq_true', Bool.not_eq_false', Int.toNat_natCast, bne_iff_ne, beq_iff_eq, bne_eq_false_iff_eq, beq_eq_false_iff_ne, ne_eq] at c1
    refine .skip ?_
    refine .code ?_
    refine .seq ?_
    have hli := keep_few c1k
    refine Wk.rg [0, 1, 2] rfl rfl ?_
    refine lA rfl .no Fx.ag27 (.u rfl) (fun _ => RdN.own (.there .here)) (fun _ => (by first | exact State.len | exact State.len.trans State.len.symm | exact Edit.len | exact Edit.len.trans Edit.len.symm | exact nine2_len | exact nine2_len.trans State.len.symm | rfl)) ?_
    refine al rfl Fx.zq27 ?_; intro b6
    refine sw rfl (.u rfl) (.u rfl) rfl Fx.sz27 .here (by first | exact State.len | exact State.len.trans State.len.symm | exact Edit.len | exact Edit.len.trans Edit.len.symm | exact nine2_len | exact nine2_len.trans State.len.symm | rfl) (State.one') ?_
    refine .nil ?_
    refine .code ?_
    refine .seq ?_
    refine Wk.rg [0, 1, 2, 3, 4, 5, 6, 7, 8] rfl rfl ?_
    refine lA rfl .no Fx.ag27 (.u rfl) (fun _ => RdN.own (.there (.there .here))) (fun _ => (by first | exact State.len | exact State.len.trans State.len.symm | exact Edit.len | exact Edit.len.trans Edit.len.symm | exact nine2_len | exact nine2_len.trans State.len.symm | rfl)) ?_
    refine lA rfl .no Fx.ag32 (.u rfl) (fun _ => RdN.own (.there .here)) (fun _ => (by first | exact State.len | exact State.len.trans State.len.symm | exact Edit.len | exact Edit.len.trans Edit.len.symm | exact nine2_len | exact nine2_len.trans State.len.symm | rfl)) ?_
    refine kc rfl Fx.go20 (Eva.cons (.u rfl) (Eva.cons (.u rfl) Eva.nil)) (apply_ok s hd e ha he _ hs hE) ?_
    rintro _ G32 μ32 hG32 ⟨X32, hX32, er32, hA32, rfl, rfl, hR32⟩
    have hs := hs.mono hG32
    have hE := hE.mono hG32
    have hea := hea.mono hG32
    have hed := hed.mono hG32
    refine mv rfl .no (.u rfl) ?_
    refine ex rfl .no (.u rfl) rfl ?_
    refine ex rfl .no (.u rfl) rfl ?_
    refine al rfl Fx.zq27 ?_; intro b7
    refine sw rfl (.u rfl) (.u rfl) rfl Fx.sz27 .here (by first | exact State.len | exact State.len.trans State.len.symm | exact Edit.len | exact Edit.len.trans Edit.len.symm | exact nine2_len | exact nine2_len.trans State.len.symm | rfl) (State.one') ?_
    refine asg rfl .no (.u rfl) ?_
    refine .nil ?_
    refine .code ?_
    refine .seq ?_
    refine .seq ?_
    refine Wk.rg [0, 1] rfl rfl ?_
    refine mv rfl .no (.u rfl) ?_
    refine cp rfl .no (.u rfl) (.u rfl) rfl ?_
    refine .nil ?_
    refine .code ?_
    refine .cond rfl (fun c2 => ?_) (fun c2 => ?_)
    · have c2k := c2
      try simp only [decide_eq_true_eq, decide_eq_false_iff_not, Int.not_lt, Int.not_le, gt_iff_lt, ge_iff_le, Bool.or_eq_true, Bool.and_eq_true, Bool.or_eq_false_iff, Bool.and_eq_false_iff, Bool.not_eq_true', Bool.not_eq_false', Int.toNat_natCast, bne_iff_ne, beq_iff_eq, bne_eq_false_iff_eq, beq_eq_false_iff_ne, ne_eq] at c2
      refine .seq ?_
      have he9 := keep_err hA32 (by omega)
      refine Wk.rg [0, 1, 2, 3, 4, 5, 6, 7, 8, 9, 10, 11, 12, 13, 14] rfl rfl ?_
      refine mv rfl .no (.u rfl) ?_
      refine mv rfl .no (.u rfl) ?_
      refine mv rfl (.t rfl rfl) (.u rfl) ?_
      refine cp rfl (.t rfl rfl) (.u rfl) (.u rfl) rfl ?_
      refine lA rfl (.t rfl rfl) Fx.ag27 (.u rfl) (fun _ => RdN.own (.there (.there (.there .here)))) (fun _ => (by first | exact State.len | exact State.len.trans State.len.symm | exact Edit.len | exact Edit.len.trans Edit.len.symm | exact nine2_len | exact nine2_len.trans State.len.symm | rfl)) ?_
      refine kv rfl (.t rfl rfl) Fx.go12 (Eva.cons (.u rfl) Eva.nil) (fun _ => vRight_ok s hd _ hs) ?_
      refine nt rfl (.t rfl rfl) (.u rfl) ?_
      refine eb rfl (.t rfl rfl) Fx.bt4 (.u rfl) (.u rfl) ?_
      refine wo_b true (he9.1) ?_
      refine pkA rfl .no (.u rfl) (.u rfl) ?_
      refine mv rfl .no (.u rfl) ?_
      refine lA rfl (.t rfl rfl) Fx.ag27 (.u rfl) (fun _ => RdN.own .here) (fun _ => (by first | exact State.len | exact State.len.trans State.len.symm | exact Edit.len | exact Edit.len.trans Edit.len.symm | exact nine2_len | exact nine2_len.trans State.len.symm | rfl)) ?_
      refine kv rfl (.t rfl rfl) Fx.go23 (Eva.cons (.u rfl) Eva.nil) (fun _ => count18_ok X32 hX32 _ hR32) ?_
      refine cp rfl (.t rfl rfl) (.u rfl) (.u rfl) rfl ?_
      refine wo_b true (he9.2) ?_
      refine pkA rfl .no (.u rfl) (.u rfl) ?_
      refine asg rfl .no (.u rfl) ?_
      refine .nil ?_
      refine .code ?_
      refine .ret ?_
      refine We.fin0 Try.results7 (.tmp rfl .nil) ?_
      exact ⟨rfl, congrArg Value.bool (by simp)⟩
    · have c2k := c2
      try simp only [decide_eq_true_eq, decide_eq_false_iff_not, Int.not_lt, Int.not_le, gt_iff_lt, ge_iff_le, Bool.or_eq_true, Bool.and_eq_true, Bool.or_eq_false_iff, Bool.and_eq_false_iff, Bool.not_eq_true', Bool.not_eq_false', Int.toNat_natCast, bne_iff_ne, beq_iff_eq, bne_eq_false_iff_eq, beq_eq_false_iff_ne, ne_eq] at c2
      refine .skip ?_
      refine .code ?_
      refine .seq ?_
      have h9 : er32 = 0 := by omega
      have hA0 : AppR s e X32 0 := by rw [h9] at hA32; exact hA32
      refine Wk.rg [0, 1, 2, 3, 4, 5, 6, 7, 8, 9, 10, 11, 12] rfl rfl ?_
      refine fz rfl .no Fx.fo32_0 (.u rfl) ?_
      refine ld rfl .no Fx.ag24 (.u rfl) (fun _ => Rd.own (.there (.there .here)) (by first | exact wap_f rfl | rfl)) ?_
      refine fz rfl .no Fx.fo32_1 (.u rfl) ?_
      refine ld rfl .no Fx.ag24 (.u rfl) (fun _ => Rd.own (.there (.there .here)) (by first | exact wap_f rfl | rfl)) ?_
      refine fz rfl .no Fx.fo32_2 (.u rfl) ?_
      refine ld rfl .no Fx.ag24 (.u rfl) (fun _ => Rd.own (.there (.there .here)) (by first | exact wap_f rfl | rfl)) ?_
      refine fz rfl .no Fx.fo32_3 (.u rfl) ?_
      refine ld rfl .no Fx.ag24 (.u rfl) (fun _ => Rd.own (.there (.there .here)) (by first | exact wap_f rfl | rfl)) ?_
      refine fz rfl .no Fx.fo32_4 (.u rfl) ?_
      refine lA rfl .no Fx.ag25 (.u rfl) (fun _ => RdN.part (n := 5) (cs' := (List.range 5).map (fun i => .int .u64 (e.gens i))) (.there (.there .here)) (rfl)) (fun _ => rfl) ?_
      refine bCe (bkC e (.slice none 0 0) (.slice none 0 0)) rfl .no Fx.bp32_0_1_2_3_4 (.cons (.u rfl) rfl (.cons (.u rfl) rfl (.cons (.u rfl) rfl (.cons (.u rfl) rfl (.cons (.u rfl) rfl .nil))))) rfl (rfl) ?_
      refine al rfl Fx.zq32 ?_; intro b9
      refine sw rfl (.u rfl) (.u rfl) rfl Fx.sz32 .here rfl (bkC_one rfl rfl) ?_
      refine .nil ?_
      refine .code ?_
      refine .seq ?_
      refine .seq ?_
      refine wk_nilS 2 Gone.cells 51 ?_
      refine wk_nilS 40 Meta.cells 48 ?_
      refine Wk.rg [0, 1, 2, 3] rfl rfl ?_
      refine fz rfl .no Fx.fo32_5 (.u rfl) ?_
      refine ld rfl .no Fx.ag22 (.u rfl) (fun _ => Rd.own (.there (.there (.there (.there (.there .here))))) (by first | exact wap_f rfl | rfl)) ?_
      refine ln rfl .no Fx.sn22 (.u rfl) ?_
      refine mv rfl .no (.u rfl) ?_
      refine .nil ?_
      refine .code ?_
      refine .block ?_
      refine Wk.lop (α := Nat × Value) (fun gh => [(65, true, .int .i64 (gh.1 : Int))]) (fun gh => [rS 2 Gone.cells gh.2 51 ((e.add.take gh.1).map goneOf), .blk b9 (cl (bkC e (.slice none 0 0) gh.2) 32)])
        (fun gh Gl => (gh.1 ≤ e.add.length)) (fun gh => e.add.length - gh.1) (0, .slice none 0 0) [(2, true, _), (3, true, _), (5, true, _), (6, true, _), (7, true, _), (9, true, _), (64, true, _)] [_, _, _, _, _]
        (ESub.cons rfl (by first | rfl | exact evi (by omega)) (ESub.cons rfl rfl (ESub.cons rfl rfl (ESub.cons rfl rfl (ESub.cons rfl rfl (ESub.cons rfl rfl (ESub.cons rfl rfl (ESub.cons rfl rfl ESub.nil))))))))
        (MSub.cons (.there .here) rfl (MSub.cons (.there .here) rfl (MSub.cons .here rfl (MSub.cons .here rfl (MSub.cons .here rfl (MSub.cons .here rfl (MSub.cons .here rfl MSub.nil))))))) ?_ ?_
      · (try dsimp only) <;> (first | omega | rfl | assumption | (simp; done))
      intro gh N0 Gl0 hN0 hGl0 hF0
      obtain ⟨k, w⟩ := gh; dsimp only at hF0 hN0 ⊢
      have hk := hF0
      have hs := hs.mono hGl0
      have hE := hE.mono hGl0
      have hea := hea.mono hGl0
      have hed := hed.mono hGl0
      have hR32 := hR32.mono hGl0
      refine .seq ?_
      refine Wk.rg [0] rfl rfl ?_
      refine cp rfl .no (.u rfl) (.u rfl) rfl ?_
      refine .nil ?_
      refine .code ?_
      refine .seq ?_
      refine .cond rfl (fun c3 => ?_) (fun c3 => ?_)
      · have c3k := c3
        try simp only [decide_eq_true_eq, decide_eq_false_iff_not, Int.not_lt, Int.not_le, gt_iff_lt, ge_iff_le, Bool.or_eq_true, Bool.and_eq_true, Bool.or_eq_false_iff, Bool.and_eq_false_iff, Bool.not_eq_true', Bool.not_eq_false', Int.toNat_natCast, bne_iff_ne, beq_iff_eq, bne_eq_false_iff_eq, beq_eq_false_iff_ne, ne_eq] at c3
        refine .skip ?_
        refine .code ?_
        refine .seq ?_
        refine .block ?_
        refine .seq ?_
        refine Wk.rg [0, 1] rfl rfl ?_
        refine mv rfl .no (.u rfl) ?_
        refine asg rfl .no (.u rfl) ?_
        refine .nil ?_
        refine .code ?_
        refine Wk.mix ⟨false, false⟩ Fx.mix (by kernel_rfl) ?_
        obtain ⟨m, em⟩ := getx (k := k) (xs := e.add) (by omega)
        refine Wt.one 0 (by kernel_rfl) ?_
        refine fz rfl .no Fx.fo32_6 (.u rfl) ?_
        refine .nil ?_
        refine Wt.one 1 (by kernel_rfl) ?_
        refine ld rfl .no Fx.ag30 (.u rfl) (fun _ => Rd.own (.there .here) (by first | exact wap_f rfl | rfl)) ?_
        refine .nil ?_
        refine Wt.one 2 (by kernel_rfl) ?_
        refine fz rfl .no Fx.fo32_5 (.u rfl) ?_
        refine .nil ?_
        refine Wt.one 3 (by kernel_rfl) ?_
        refine ld rfl .no Fx.ag22 (.u rfl) (fun _ => Rd.own (.there (.there (.there (.there (.there .here))))) (by first | exact wap_f rfl | rfl)) ?_
        refine .nil ?_
        refine Wt.one 4 (by kernel_rfl) ?_
        refine mv rfl .no (.u rfl) ?_
        refine .nil ?_
        refine Wt.one 5 (by kernel_rfl) ?_
        refine ih rfl .no Fx.se22 (.u rfl) (.u rfl) (fun _ => by omega) (fun _ => by omega) (fun _ => hea.nn (k := k) (by first | omega | (simp only [Bool.and_eq_true, decide_eq_true_eq] at hc; omega) | (simp only [List.length_cons, List.length_nil]; omega))) ?_
        refine .nil ?_
        refine Wt.one 6 (by kernel_rfl) ?_
        refine fa rfl .no Fx.fo48_0 (.u rfl) ?_
        refine .nil ?_
        refine Wt.one 7 (by kernel_rfl) ?_
        refine ld rfl .no Fx.ag5 (.u rfl) (fun _ => (hea.fat (by omega) em 0 rfl).rd) ?_
        refine .nil ?_
        refine Wt.one 8 (by kernel_rfl) ?_
        refine fz rfl .no Fx.fo32_5 (.u rfl) ?_
        refine .nil ?_
        refine Wt.one 9 (by kernel_rfl) ?_
        refine ld rfl .no Fx.ag22 (.u rfl) (fun _ => Rd.own (.there (.there (.there (.there (.there .here))))) (by first | exact wap_f rfl | rfl)) ?_
        refine .nil ?_
        refine Wt.one 10 (by kernel_rfl) ?_
        refine mv rfl .no (.u rfl) ?_
        refine .nil ?_
        refine Wt.one 11 (by kernel_rfl) ?_
        refine ih rfl .no Fx.se22 (.u rfl) (.u rfl) (fun _ => by omega) (fun _ => by omega) (fun _ => hea.nn (k := k) (by first | omega | (simp only [Bool.and_eq_true, decide_eq_true_eq] at hc; omega) | (simp only [List.length_cons, List.length_nil]; omega))) ?_
        refine .nil ?_
        refine Wt.one 12 (by kernel_rfl) ?_
        refine fa rfl .no Fx.fo48_3 (.u rfl) ?_
        refine .nil ?_
        refine Wt.one 13 (by kernel_rfl) ?_
        refine ld rfl .no Fx.ag24 (.u rfl) (fun _ => (hea.fat (by omega) em 3 rfl).rd) ?_
        refine .nil ?_
        refine Wt.one 14 (by kernel_rfl) ?_
        refine bC rfl .no Fx.bp51_0_1 (.cons (.u rfl) rfl (.cons (.u rfl) rfl .nil)) rfl ?_
        refine .nil ?_
        refine Wt.b1 15 (by kernel_rfl) ?_
        refine Go.Tan.b1 rfl Fx.se30 Fx.zv51 (.u rfl) rfl rfl (by decide) ?_; intro b83
        refine .nil ?_
        refine Wt.b1 16 (by kernel_rfl) ?_
        refine apS (xs := ((e.add.take k).map goneOf)) (goneOf m) rfl Fx.se30 Fx.zv51 rfl (.u rfl) (.u rfl) (.there .here) .here (rfl) (gones1) (by (try simp only [List.length_map, List.length_take]); omega) (by unfold maxLen; (try simp only [List.length_map, List.length_take]); omega) ?_; intro v84 ov84
        refine .nil ?_
        refine Wt.one 17 (by kernel_rfl) ?_
        refine fz rfl .no Fx.fo32_6 (.u rfl) ?_
        refine .nil ?_
        refine Wt.b1 18 (by kernel_rfl) ?_
        refine s1v rfl (.u rfl) (.u rfl) .here Fx.sz30 (.there (.there .here)) (by first | (show _ < 11; decide) | (show _ < 14; decide) | (show _ ≤ 14; decide)) (rfl) ?_
        refine .nil ?_
        refine Wt.last (by kernel_rfl) ?_
        refine .blk ?_
        refine .code ?_
        refine Wk.rg [0, 1] rfl rfl ?_
        refine arn (((k + 1) : Nat) : Int) rfl .no (.u rfl) (.u rfl) rfl (fun _ => by omega) (fun _ => wrap_i64 (by omega) (by omega)) ?_
        refine mv rfl .no (.u rfl) ?_
        refine .nil ?_
        refine We.lpo (k + 1, v84) ?_ ?_ ?_ ?_ ?_
        · exact (ESub.cons rfl (by first | rfl | exact evi (by omega)) (ESub.cons rfl rfl (ESub.cons rfl rfl (ESub.cons rfl rfl (ESub.cons rfl rfl (ESub.cons rfl rfl (ESub.cons rfl rfl (ESub.cons rfl rfl ESub.nil))))))))
        · exact (MSub.cons (.there .here) (by rw [take_goneOf em]) (MSub.cons .here rfl (MSub.cons (.there .here) rfl (MSub.cons (.there .here) rfl (MSub.cons (.there .here) rfl (MSub.cons (.there .here) rfl (MSub.cons (.there .here) rfl MSub.nil)))))))
        · first | omega | (dsimp only; omega)
        · exact hGl0
        · (try dsimp only) <;> (first | omega | rfl | assumption | (simp; done))
      · have c3k := c3
        try simp only [decide_eq_true_eq, decide_eq_false_iff_not, Int.not_lt, Int.not_le, gt_iff_lt, ge_iff_le, Bool.or_eq_true, Bool.and_eq_true, Bool.or_eq_false_iff, Bool.and_eq_false_iff, Bool.not_eq_true', Bool.not_eq_false', Int.toNat_natCast, bne_iff_ne, beq_iff_eq, bne_eq_false_iff_eq, beq_eq_false_iff_ne, ne_eq] at c3
        refine .exit ?_
        refine .xcode ?_
        refine .xlp ?_
        refine .xblk ?_
        refine .code ?_
        refine .seq ?_
        refine .seq ?_
        refine Wk.rg [0] rfl rfl ?_
        refine mv rfl .no (.u rfl) ?_
        refine .nil ?_
        refine .code ?_
        refine .block ?_
        obtain rfl : k = e.add.length := by omega
        refine Wk.lop (α := Nat × Value × List Meta) (fun gh => [(87, true, .int .i64 (gh.1 : Int))]) (fun gh => [.blk b9 (cl (bkC e gh.2.1 w) 32), rS 40 Meta.cells gh.2.1 48 gh.2.2])
          (fun gh Gl => (gh.1 ≤ 5) ∧ (gh.2.2 = allB s e gh.1) ∧ (gh.2.2.length ≤ 90000 * gh.1)) (fun gh => 5 - gh.1) (0, .slice none 0 0, []) [(2, true, _), (3, true, _), (5, true, _), (6, true, _), (7, true, _), (9, true, _)] [_, _, _, _, _]
          (ESub.cons rfl (by first | rfl | exact evi (by omega)) (ESub.cons rfl rfl (ESub.cons rfl rfl (ESub.cons rfl rfl (ESub.cons rfl rfl (ESub.cons rfl rfl (ESub.cons rfl rfl ESub.nil)))))))
          (MSub.cons (.there .here) rfl (MSub.cons (.there .here) rfl (MSub.cons .here rfl (MSub.cons .here rfl (MSub.cons .here rfl (MSub.cons .here rfl (MSub.cons .here rfl MSub.nil))))))) ?_ ?_
        · refine ⟨?_, ?_, ?_⟩
          · (try dsimp only) <;> (first | omega | rfl | assumption | (simp; done))
          · (try dsimp only) <;> (rfl)
          · (try dsimp only) <;> (first | omega | rfl | assumption | (simp; done))
        intro gh N1 Gl1 hN1 hGl1 hF1
        obtain ⟨k, w2, L⟩ := gh; dsimp only at hF1 hN1 ⊢
        obtain ⟨hk, hL, hl⟩ := hF1
        have hs := hs.mono hGl1
        have hE := hE.mono hGl1
        have hea := hea.mono hGl1
        have hed := hed.mono hGl1
        have hR32 := hR32.mono hGl1
        refine .seq ?_
        refine Wk.rg [0] rfl rfl ?_
        refine cp rfl .no (.u rfl) (.u rfl) rfl ?_
        refine .nil ?_
        refine .code ?_
        refine .seq ?_
        refine .cond rfl (fun c4 => ?_) (fun c4 => ?_)
        · have c4k := c4
          try simp only [decide_eq_true_eq, decide_eq_false_iff_not, Int.not_lt, Int.not_le, gt_iff_lt, ge_iff_le, Bool.or_eq_true, Bool.and_eq_true, Bool.or_eq_false_iff, Bool.and_eq_false_iff, Bool.not_eq_true', Bool.not_eq_false', Int.toNat_natCast, bne_iff_ne, beq_iff_eq, bne_eq_false_iff_eq, beq_eq_false_iff_ne, ne_eq] at c4
          refine .skip ?_
          refine .code ?_
          refine .seq ?_
          refine .block ?_
          refine .seq ?_
          refine Wk.rg [0, 1] rfl rfl ?_
          refine mv rfl .no (.u rfl) ?_
          refine asg rfl .no (.u rfl) ?_
          refine .nil ?_
          refine .code ?_
          refine .seq ?_
          have hlv := hs.lv k (by omega)
          have hlk := lv_tot s (i := k) (by omega)
          refine Wk.rg [0, 1, 2, 3, 4, 5] rfl rfl ?_
          refine mv rfl .no (.u rfl) ?_
          refine fz rfl .no Fx.fo27_0 (.u rfl) ?_
          refine iA rfl .no Fx.ar23 (.u rfl) (.u rfl) (fun _ => by omega) (fun _ => by omega) ?_
          refine ld rfl .no Fx.ag22 (.u rfl) (fun _ => Rd.own (.there (.there (.there (.there (.there (.there .here)))))) (s.cell_lv hd (k := k) (by omega))) ?_
          refine ln rfl .no Fx.sn22 (.u rfl) ?_
          refine mv rfl .no (.u rfl) ?_
          refine .nil ?_
          refine .code ?_
          refine .block ?_
          refine Wk.lop (α := Nat × Value × List Meta) (fun gh => [(95, true, .int .i64 (gh.1 : Int))]) (fun gh => [.blk b9 (cl (bkC e gh.2.1 w) 32), rS 40 Meta.cells gh.2.1 48 gh.2.2])
            (fun gh Gl => (gh.1 ≤ (s.lv k).length) ∧ (gh.2.2 = allB s e k ++ ((s.lv k).take gh.1).flatMap (hitB e k)) ∧ (gh.2.2.length ≤ 90000 * k + 300 * gh.1)) (fun gh => (s.lv k).length - gh.1) (0, w2, L) [(2, true, _), (3, true, _), (5, true, _), (6, true, _), (7, true, _), (9, true, _), (11, true, _), (87, true, _), (93, true, _), (94, true, _)] [_, _, _, _, _]
            (ESub.cons rfl (by first | rfl | exact evi (by omega)) (ESub.cons rfl rfl (ESub.cons rfl rfl (ESub.cons rfl rfl (ESub.cons rfl rfl (ESub.cons rfl rfl (ESub.cons rfl rfl (ESub.cons rfl rfl (ESub.cons rfl rfl (ESub.cons rfl rfl (ESub.cons rfl rfl ESub.nil)))))))))))
            (MSub.cons .here rfl (MSub.cons .here rfl (MSub.cons .here rfl (MSub.cons .here rfl (MSub.cons .here rfl (MSub.cons .here rfl (MSub.cons .here rfl MSub.nil))))))) ?_ ?_
          · refine ⟨?_, ?_, ?_⟩
            · (try dsimp only) <;> (first | omega | rfl | assumption | (simp; done))
            · (try dsimp only) <;> (rw [hL]; simp)
            · (try dsimp only) <;> (first | omega | rfl | assumption | (simp; done))
          intro gh N2 Gl2 hN2 hGl2 hF2
          obtain ⟨j, w2, L⟩ := gh; dsimp only at hF2 hN2 ⊢
          obtain ⟨hj, hL, hl⟩ := hF2
          have hs := hs.mono hGl2
          have hE := hE.mono hGl2
          have hea := hea.mono hGl2
          have hed := hed.mono hGl2
          have hR32 := hR32.mono hGl2
          have hlv := hlv.mono hGl2
          refine .seq ?_
          refine Wk.rg [0] rfl rfl ?_
          refine cp rfl .no (.u rfl) (.u rfl) rfl ?_
          refine .nil ?_
          refine .code ?_
          refine .seq ?_
          refine .cond rfl (fun c5 => ?_) (fun c5 => ?_)
          · have c5k := c5
            try simp only [decide_eq_true_eq, decide_eq_false_iff_not, Int.not_lt, Int.not_le, gt_iff_lt, ge_iff_le, Bool.or_eq_true, Bool.and_eq_true, Bool.or_eq_false_iff, Bool.and_eq_false_iff, Bool.not_eq_true', Bool.not_eq_false', Int.toNat_natCast, bne_iff_ne, beq_iff_eq, bne_eq_false_iff_eq, beq_eq_false_iff_ne, ne_eq] at c5
            refine .skip ?_
            refine .code ?_
            refine .seq ?_
            refine .block ?_
            refine .seq ?_
            refine Wk.rg [0, 1, 2, 3] rfl rfl ?_
            obtain ⟨m, em⟩ := getx (k := j) (xs := s.lv k) (by omega)
            refine ih rfl .no Fx.se22 (.u rfl) (.u rfl) (fun _ => by omega) (fun _ => by omega) (fun _ => hlv.nn (k := j) (by first | omega | (simp only [Bool.and_eq_true, decide_eq_true_eq] at hc; omega) | (simp only [List.length_cons, List.length_nil]; omega))) ?_
            refine lA rfl .no Fx.ag48 (.u rfl) (fun _ => (hlv.at (by omega) em).rd) (fun _ => Meta.len _) ?_
            refine al rfl Fx.zq48 ?_; intro b13
            refine sw rfl (.u rfl) (.u rfl) rfl Fx.sz48 .here rfl (Meta.one _) ?_
            refine .nil ?_
            refine .code ?_
            refine .seq ?_
            refine Wk.rg [0, 1, 2, 3] rfl rfl ?_
            refine fz rfl .no Fx.fo32_6 (.u rfl) ?_
            refine ld rfl .no Fx.ag30 (.u rfl) (fun _ => Rd.own (.there (.there (.there (.there (.there (.there .here)))))) (by first | exact wap_f rfl | rfl)) ?_
            refine ln rfl .no Fx.sn30 (.u rfl) ?_
            refine mv rfl .no (.u rfl) ?_
            refine .nil ?_
            refine .code ?_
            refine .block ?_
            refine Wk.lop (α := Nat × Value × List Meta) (fun gh => [(102, true, .int .i64 (gh.1 : Int))]) (fun gh => [.blk b9 (cl (bkC e gh.2.1 w) 32), rS 40 Meta.cells gh.2.1 48 gh.2.2])
              (fun gh Gl => (gh.1 ≤ e.drop.length) ∧ (gh.2.2 = (allB s e k ++ ((s.lv k).take j).flatMap (hitB e k)) ++ hitQ e k m gh.1) ∧ (gh.2.2.length ≤ 90000 * k + 300 * j + gh.1)) (fun gh => e.drop.length - gh.1) (0, w2, L) [(2, true, _), (3, true, _), (5, true, _), (6, true, _), (7, true, _), (9, true, _), (11, true, _), (13, true, _), (87, true, _), (93, true, _), (94, true, _), (95, true, _), (100, true, _), (101, true, _)] [_, _, _, _, _, _]
              (ESub.cons rfl (by first | rfl | exact evi (by omega)) (ESub.cons rfl rfl (ESub.cons rfl rfl (ESub.cons rfl rfl (ESub.cons rfl rfl (ESub.cons rfl rfl (ESub.cons rfl rfl (ESub.cons rfl rfl (ESub.cons rfl rfl (ESub.cons rfl rfl (ESub.cons rfl rfl (ESub.cons rfl rfl (ESub.cons rfl rfl (ESub.cons rfl rfl (ESub.cons rfl rfl ESub.nil)))))))))))))))
              (MSub.cons (.there .here) rfl (MSub.cons (.there .here) rfl (MSub.cons .here rfl (MSub.cons .here rfl (MSub.cons .here rfl (MSub.cons .here rfl (MSub.cons .here rfl (MSub.cons .here rfl MSub.nil)))))))) ?_ ?_
            · refine ⟨?_, ?_, ?_⟩
              · (try dsimp only) <;> (first | omega | rfl | assumption | (simp; done))
              · (try dsimp only) <;> (rw [hL]; simp [hitQ])
              · (try dsimp only) <;> (first | omega | rfl | assumption | (simp; done))
            intro gh N3 Gl3 hN3 hGl3 hF3
            obtain ⟨q, w2, L⟩ := gh; dsimp only at hF3 hN3 ⊢
            obtain ⟨hq, hL, hl⟩ := hF3
            have hs := hs.mono hGl3
            have hE := hE.mono hGl3
            have hea := hea.mono hGl3
            have hed := hed.mono hGl3
            have hR32 := hR32.mono hGl3
            have hlv := hlv.mono hGl3
            refine .seq ?_
            refine Wk.rg [0] rfl rfl ?_
            refine cp rfl .no (.u rfl) (.u rfl) rfl ?_
            refine .nil ?_
            refine .code ?_
            refine .seq ?_
            refine .cond rfl (fun c6 => ?_) (fun c6 => ?_)
            · have c6k := c6
              try simp only [decide_eq_true_eq, decide_eq_false_iff_not, Int.not_lt, Int.not_le, gt_iff_lt, ge_iff_le, Bool.or_eq_true, Bool.and_eq_true, Bool.or_eq_false_iff, Bool.and_eq_false_iff, Bool.not_eq_true', Bool.not_eq_false', Int.toNat_natCast, bne_iff_ne, beq_iff_eq, bne_eq_false_iff_eq, beq_eq_false_iff_ne, ne_eq] at c6
              refine .skip ?_
              refine .code ?_
              refine .seq ?_
              refine .block ?_
              refine .seq ?_
              refine Wk.rg [0, 1, 2, 3] rfl rfl ?_
              obtain ⟨g, eg⟩ := getx (k := q) (xs := e.drop) (by omega)
              have hwg := (hE.wf.drop g (List.mem_of_getElem? eg)).level
              refine ih rfl .no Fx.se30 (.u rfl) (.u rfl) (fun _ => by omega) (fun _ => by omega) (fun _ => hed.nn (k := q) (by first | omega | (simp only [Bool.and_eq_true, decide_eq_true_eq] at hc; omega) | (simp only [List.length_cons, List.length_nil]; omega))) ?_
              refine lA rfl .no Fx.ag51 (.u rfl) (fun _ => (hed.at (by omega) eg).rd) (fun _ => rfl) ?_
              refine al rfl Fx.zr51 ?_; intro b15
              refine sw rfl (.u rfl) (.u rfl) rfl Fx.sz51 .here rfl (gones1) ?_
              refine .nil ?_
              refine .code ?_
              refine .seq ?_
              refine Wk.rg [0, 1, 2, 3, 4, 5, 6, 7, 8, 9, 10, 11] rfl rfl ?_
              refine fz rfl .no Fx.fo51_0 (.u rfl) ?_
              refine ld rfl .no Fx.ag5 (.u rfl) (fun _ => Rd.own .here (by first | exact wap_f rfl | rfl)) ?_
              refine cw rfl .no Fx.cv5_3 (.u rfl) (fun _ => wrap_i64 (by omega) (by omega)) ?_
              refine mv rfl .no (.u rfl) ?_
              refine cp rfl .no (.u rfl) (.u rfl) rfl ?_
              refine mv rfl .no (.u rfl) ?_
              refine fz rfl (.t rfl rfl) Fx.fo51_1 (.u rfl) ?_
              refine ld rfl (.t rfl rfl) Fx.ag24 (.s rfl) (fun hc => Rd.own .here (by first | exact wap_f rfl | rfl)) ?_
              refine fz rfl (.t rfl rfl) Fx.fo48_3 (.u rfl) ?_
              refine ld rfl (.t rfl rfl) Fx.ag24 (.s rfl) (fun hc => Rd.own (.there (.there (.there .here))) (by first | exact wap_f rfl | rfl)) ?_
              refine cp rfl (.t rfl rfl) (.s rfl) (.s rfl) rfl ?_
              refine pkA rfl .no (.u rfl) (.s rfl) ?_
              refine .nil ?_
              refine .code ?_
              refine .cond rfl (fun c7 => ?_) (fun c7 => ?_)
              · have c7k := c7
                try simp only [decide_eq_true_eq, decide_eq_false_iff_not, Int.not_lt, Int.not_le, gt_iff_lt, ge_iff_le, Bool.or_eq_true, Bool.and_eq_true, Bool.or_eq_false_iff, Bool.and_eq_false_iff, Bool.not_eq_true', Bool.not_eq_false', Int.toNat_natCast, bne_iff_ne, beq_iff_eq, bne_eq_false_iff_eq, beq_eq_false_iff_ne, ne_eq] at c7
                refine Wk.rg [0, 1, 2, 3, 4, 5, 6] rfl rfl ?_
                refine fz rfl .no Fx.fo32_5 (.u rfl) ?_
                refine ld rfl .no Fx.ag22 (.u rfl) (fun _ => Rd.own (.there .here) (by first | exact wap_f rfl | rfl)) ?_
                refine lA rfl .no Fx.ag48 (.u rfl) (fun _ => RdN.own (.there (.there (.there .here)))) (fun _ => Meta.len _) ?_
                refine Go.Tan.b1 rfl Fx.se22 Fx.zw48 (.u rfl) rfl rfl (by decide) ?_; intro b121
                refine apS (xs := L) (m) rfl Fx.se22 Fx.zw48 rfl (.u rfl) (.u rfl) (.there (.there (.there .here))) .here (Meta.len _) (Meta.one _) (by omega) (by unfold maxLen; omega) ?_; intro v122 ov122
                refine fz rfl .no Fx.fo32_5 (.u rfl) ?_
                refine s1v rfl (.u rfl) (.u rfl) .here Fx.sz22 (.there (.there (.there .here))) (by first | (show _ < 11; decide) | (show _ < 14; decide) | (show _ ≤ 14; decide)) (rfl) ?_
                refine .nil ?_
                refine .blk ?_
                refine .code ?_
                refine Wk.rg [0, 1] rfl rfl ?_
                refine arn (((q + 1) : Nat) : Int) rfl .no (.u rfl) (.u rfl) rfl (fun _ => by omega) (fun _ => wrap_i64 (by omega) (by omega)) ?_
                refine mv rfl .no (.u rfl) ?_
                refine .nil ?_
                refine We.lpo (q + 1, v122, L ++ [m]) ?_ ?_ ?_ ?_ ?_
                · exact (ESub.cons rfl (by first | rfl | exact evi (by omega)) (ESub.cons rfl rfl (ESub.cons rfl rfl (ESub.cons rfl rfl (ESub.cons rfl rfl (ESub.cons rfl rfl (ESub.cons rfl rfl (ESub.cons rfl rfl (ESub.cons rfl rfl (ESub.cons rfl rfl (ESub.cons rfl rfl (ESub.cons rfl rfl (ESub.cons rfl rfl (ESub.cons rfl rfl (ESub.cons rfl rfl ESub.nil)))))))))))))))
                · exact (MSub.cons .here rfl (MSub.cons .here rfl (MSub.cons (.there (.there .here)) rfl (MSub.cons (.there (.there .here)) rfl (MSub.cons (.there (.there .here)) rfl (MSub.cons (.there (.there .here)) rfl (MSub.cons (.there (.there .here)) rfl (MSub.cons (.there (.there .here)) rfl MSub.nil))))))))
                · first | omega | (dsimp only; omega)
                · exact hGl3
                · refine ⟨?_, ?_, ?_⟩
                  · (try dsimp only) <;> (first | omega | rfl | assumption | (simp; done))
                  · (try dsimp only) <;> (rw [hL, hitQ_yes eg (by assumption)]; simp)
                  · (try dsimp only) <;> (simp only [List.length_append, List.length_cons, List.length_nil]; omega)
              · have c7k := c7
                try simp only [decide_eq_true_eq, decide_eq_false_iff_not, Int.not_lt, Int.not_le, gt_iff_lt, ge_iff_le, Bool.or_eq_true, Bool.and_eq_true, Bool.or_eq_false_iff, Bool.and_eq_false_iff, Bool.not_eq_true', Bool.not_eq_false', Int.toNat_natCast, bne_iff_ne, beq_iff_eq, bne_eq_false_iff_eq, beq_eq_false_iff_ne, ne_eq] at c7
                refine .skip ?_
                refine .blk ?_
                refine .code ?_
                refine Wk.rg [0, 1] rfl rfl ?_
                refine arn (((q + 1) : Nat) : Int) rfl .no (.u rfl) (.u rfl) rfl (fun _ => by omega) (fun _ => wrap_i64 (by omega) (by omega)) ?_
                refine mv rfl .no (.u rfl) ?_
                refine .nil ?_
                refine We.lpo (q + 1, w2, L) ?_ ?_ ?_ ?_ ?_
                · exact (ESub.cons rfl (by first | rfl | exact evi (by omega)) (ESub.cons rfl rfl (ESub.cons rfl rfl (ESub.cons rfl rfl (ESub.cons rfl rfl (ESub.cons rfl rfl (ESub.cons rfl rfl (ESub.cons rfl rfl (ESub.cons rfl rfl (ESub.cons rfl rfl (ESub.cons rfl rfl (ESub.cons rfl rfl (ESub.cons rfl rfl (ESub.cons rfl rfl (ESub.cons rfl rfl ESub.nil)))))))))))))))
                · exact (MSub.cons (.there .here) rfl (MSub.cons (.there .here) rfl (MSub.cons (.there .here) rfl (MSub.cons (.there .here) rfl (MSub.cons (.there .here) rfl (MSub.cons (.there .here) rfl (MSub.cons (.there .here) rfl (MSub.cons (.there .here) rfl MSub.nil))))))))
                · first | omega | (dsimp only; omega)
                · exact hGl3
                · refine ⟨?_, ?_, ?_⟩
                  · (try dsimp only) <;> (first | omega | rfl | assumption | (simp; done))
                  · (try dsimp only) <;> (rw [hL, hitQ_no eg (by assumption)])
                  · (try dsimp only) <;> (first | omega | rfl | assumption | (simp; done))
            · have c6k := c6
              try simp only [decide_eq_true_eq, decide_eq_false_iff_not, Int.not_lt, Int.not_le, gt_iff_lt, ge_iff_le, Bool.or_eq_true, Bool.and_eq_true, Bool.or_eq_false_iff, Bool.and_eq_false_iff, Bool.not_eq_true', Bool.not_eq_false', Int.toNat_natCast, bne_iff_ne, beq_iff_eq, bne_eq_false_iff_eq, beq_eq_false_iff_ne, ne_eq] at c6
              refine .exit ?_
              refine .xcode ?_
              refine .xlp ?_
              refine .xblk ?_
              refine .blk ?_
              refine .code ?_
              refine Wk.rg [0, 1] rfl rfl ?_
              refine arn (((j + 1) : Nat) : Int) rfl .no (.u rfl) (.u rfl) rfl (fun _ => by omega) (fun _ => wrap_i64 (by omega) (by omega)) ?_
              refine mv rfl .no (.u rfl) ?_
              refine .nil ?_
              refine We.lpo (j + 1, w2, L) ?_ ?_ ?_ ?_ ?_
              · exact (ESub.cons rfl (by first | rfl | exact evi (by omega)) (ESub.cons rfl rfl (ESub.cons rfl rfl (ESub.cons rfl rfl (ESub.cons rfl rfl (ESub.cons rfl rfl (ESub.cons rfl rfl (ESub.cons rfl rfl (ESub.cons rfl rfl (ESub.cons rfl rfl (ESub.cons rfl rfl ESub.nil)))))))))))
              · exact (MSub.cons .here rfl (MSub.cons .here rfl (MSub.cons (.there .here) rfl (MSub.cons (.there .here) rfl (MSub.cons (.there .here) rfl (MSub.cons (.there .here) rfl (MSub.cons (.there .here) rfl MSub.nil)))))))
              · first | omega | (dsimp only; omega)
              · exact (hGl2).trans hGl3
              · refine ⟨?_, ?_, ?_⟩
                · (try dsimp only) <;> (first | omega | rfl | assumption | (simp; done))
                · (try dsimp only) <;> (rw [hL, hitQ_all (by omega)]; exact flat_step em)
                · (try dsimp only) <;> (first | omega | rfl | assumption | (simp; done))
          · have c5k := c5
            try simp only [decide_eq_true_eq, decide_eq_false_iff_not, Int.not_lt, Int.not_le, gt_iff_lt, ge_iff_le, Bool.or_eq_true, Bool.and_eq_true, Bool.or_eq_false_iff, Bool.and_eq_false_iff, Bool.not_eq_true', Bool.not_eq_false', Int.toNat_natCast, bne_iff_ne, beq_iff_eq, bne_eq_false_iff_eq, beq_eq_false_iff_ne, ne_eq] at c5
            refine .exit ?_
            refine .xcode ?_
            refine .xlp ?_
            refine .xblk ?_
            refine .blk ?_
            refine .code ?_
            refine Wk.rg [0, 1] rfl rfl ?_
            refine arn (((k + 1) : Nat) : Int) rfl .no (.u rfl) (.u rfl) rfl (fun _ => by omega) (fun _ => wrap_i64 (by omega) (by omega)) ?_
            refine mv rfl .no (.u rfl) ?_
            refine .nil ?_
            refine We.lpo (k + 1, w2, L) ?_ ?_ ?_ ?_ ?_
            · exact (ESub.cons rfl (by first | rfl | exact evi (by omega)) (ESub.cons rfl rfl (ESub.cons rfl rfl (ESub.cons rfl rfl (ESub.cons rfl rfl (ESub.cons rfl rfl (ESub.cons rfl rfl ESub.nil)))))))
            · exact (MSub.cons .here rfl (MSub.cons .here rfl (MSub.cons .here rfl (MSub.cons .here rfl (MSub.cons .here rfl (MSub.cons .here rfl (MSub.cons .here rfl MSub.nil)))))))
            · first | omega | (dsimp only; omega)
            · exact (hGl1).trans hGl2
            · refine ⟨?_, ?_, ?_⟩
              · (try dsimp only) <;> (first | omega | rfl | assumption | (simp; done))
              · (try dsimp only) <;> (rw [hL, List.take_of_length_le (by omega)]; rfl)
              · (try dsimp only) <;> (first | omega | rfl | assumption | (simp; done))
        · have c4k := c4
          try simp only [decide_eq_true_eq, decide_eq_false_iff_not, Int.not_lt, Int.not_le, gt_iff_lt, ge_iff_le, Bool.or_eq_true, Bool.and_eq_true, Bool.or_eq_false_iff, Bool.and_eq_false_iff, Bool.not_eq_true', Bool.not_eq_false', Int.toNat_natCast, bne_iff_ne, beq_iff_eq, bne_eq_false_iff_eq, beq_eq_false_iff_ne, ne_eq] at c4
          refine .exit ?_
          refine .xcode ?_
          refine .xlp ?_
          refine .xblk ?_
          refine .code ?_
          refine .seq ?_
          obtain rfl : k = 5 := by omega
          subst hL
          refine wk_fs (.there .here) (fun _ _ => rfl) (by intro b hb; cases hb) ?_; intro GfRA hRA hleRA evRA hsRA; subst evRA
          have hs := hs.mono hleRA
          have hE := hE.mono hleRA
          have hea := hea.mono hleRA
          have hed := hed.mono hleRA
          have hR32 := hR32.mono hleRA
          refine wk_fs (.there .here) (fun _ _ => rfl) (by intro b hb; cases hb) ?_; intro GfRD hRD hleRD evRD hsRD; subst evRD
          have hs := hs.mono hleRD
          have hE := hE.mono hleRD
          have hea := hea.mono hleRD
          have hed := hed.mono hleRD
          have hR32 := hR32.mono hleRD
          have hsRA := hsRA.mono hleRD
          rw [List.take_length] at hsRD
          rw [bkC_cells (s := s)]
          have hEB : EdR _ (backE s e) hRA hRD := ⟨hsRA, hsRD, backE_wf hE.wf hs.wf⟩
          refine Wk.rg [0, 1, 2, 3, 4, 5, 6, 7, 8] rfl rfl ?_
          refine lA rfl .no Fx.ag27 (.u rfl) (fun _ => RdN.own (.there .here)) (fun _ => (by first | exact State.len | exact State.len.trans State.len.symm | exact Edit.len | exact Edit.len.trans Edit.len.symm | exact nine2_len | exact nine2_len.trans State.len.symm | rfl)) ?_
          refine lA rfl .no Fx.ag32 (.u rfl) (fun _ => RdN.own .here) (fun _ => (by first | exact State.len | exact State.len.trans State.len.symm | exact Edit.len | exact Edit.len.trans Edit.len.symm | exact nine2_len | exact nine2_len.trans State.len.symm | rfl)) ?_
          refine kc rfl Fx.go20 (Eva.cons (.u rfl) (Eva.cons (.u rfl) Eva.nil)) (apply_ok X32 hX32 (backE s e) hRA hRD _ hR32 hEB) ?_
          rintro _ G130 μ130 hG130 ⟨X130, hX130, er130, hA130, rfl, rfl, hR130⟩
          have hs := hs.mono hG130
          have hE := hE.mono hG130
          have hea := hea.mono hG130
          have hed := hed.mono hG130
          have hR32 := hR32.mono hG130
          have hsRA := hsRA.mono hG130
          have hsRD := hsRD.mono hG130
          have hEB := hEB.mono hG130
          refine mv rfl .no (.u rfl) ?_
          refine ex rfl .no (.u rfl) rfl ?_
          refine ex rfl .no (.u rfl) rfl ?_
          refine al rfl Fx.zq27 ?_; intro b16
          refine sw rfl (.u rfl) (.u rfl) rfl Fx.sz27 .here (by first | exact State.len | exact State.len.trans State.len.symm | exact Edit.len | exact Edit.len.trans Edit.len.symm | exact nine2_len | exact nine2_len.trans State.len.symm | rfl) (State.one') ?_
          refine asg rfl .no (.u rfl) ?_
          refine .nil ?_
          refine .code ?_
          refine .seq ?_
          refine .seq ?_
          have hk9 := keep_back hA0 hE.wf hA130
          have hn5 := tot_nonneg s 5
          refine Wk.rg [0, 1] rfl rfl ?_
          refine mv rfl .no (.u rfl) ?_
          refine cp rfl .no (.u rfl) (.u rfl) rfl ?_
          refine .nil ?_
          refine .code ?_
          refine .cond rfl (fun c8 => ?_) (fun c8 => ?_)
          · have c8k := c8
            exact absurd hk9.1 (by simpa using c8k)
          · have c8k := c8
            try simp only [decide_eq_true_eq, decide_eq_false_iff_not, Int.not_lt, Int.not_le, gt_iff_lt, ge_iff_le, Bool.or_eq_true, Bool.and_eq_true, Bool.or_eq_false_iff, Bool.and_eq_false_iff, Bool.not_eq_true', Bool.not_eq_false', Int.toNat_natCast, bne_iff_ne, beq_iff_eq, bne_eq_false_iff_eq, beq_eq_false_iff_ne, ne_eq] at c8
            refine .skip ?_
            refine .code ?_
            refine .seq ?_
            refine wk_fz (.there (.there (.there (.there (.there .here))))) (by intro b hb; cases hb) ?_; intro Gfb2 hleb2 hbb2
            have hs := hs.mono hleb2
            have hE := hE.mono hleb2
            have hea := hea.mono hleb2
            have hed := hed.mono hleb2
            have hR32 := hR32.mono hleb2
            have hsRA := hsRA.mono hleb2
            have hsRD := hsRD.mono hleb2
            have hEB := hEB.mono hleb2
            have hR130 := hR130.mono hleb2
            refine Wk.mixp ⟨true, false⟩ Fx.mix (by kernel_rfl) ?_
            refine Wp.one 0 (by kernel_rfl) ?_
            refine fa rfl .no Fx.fo27_1 (.u rfl) ?_
            refine .nil ?_
            refine Wp.one 1 (by kernel_rfl) ?_
            refine ld rfl .no Fx.ag24 (.u rfl) (fun _ => (hbb2.rd (by rfl)).rd) ?_
            refine .nil ?_
            refine Wp.one 2 (by kernel_rfl) ?_
            refine fa rfl .no Fx.fo27_2 (.u rfl) ?_
            refine .nil ?_
            refine Wp.one 4 (by kernel_rfl) ?_
            refine fa rfl .no Fx.fo27_3 (.u rfl) ?_
            refine .nil ?_
            refine Wp.one 6 (by kernel_rfl) ?_
            refine fa rfl .no Fx.fo27_4 (.u rfl) ?_
            refine .nil ?_
            refine Wp.one 8 (by kernel_rfl) ?_
            refine fa rfl .no Fx.fo27_5 (.u rfl) ?_
            refine .nil ?_
            refine Wp.one 10 (by kernel_rfl) ?_
            refine fz rfl .no Fx.fo27_1 (.u rfl) ?_
            refine .nil ?_
            refine Wp.pr 3 (by kernel_rfl) ?_
            refine ld rfl .no Fx.ag24 (.u rfl) (fun _ => (hbb2.rd (by rfl)).rd) ?_
            refine .nil ⟨⟨rfl, rfl⟩, ?_⟩
            refine Wp.pr 5 (by kernel_rfl) ?_
            refine ld rfl .no Fx.ag24 (.u rfl) (fun _ => (hbb2.rd (by rfl)).rd) ?_
            refine .nil ⟨⟨rfl, rfl⟩, ?_⟩
            refine Wp.pr 7 (by kernel_rfl) ?_
            refine ld rfl .no Fx.ag24 (.u rfl) (fun _ => (hbb2.rd (by rfl)).rd) ?_
            refine .nil ⟨⟨rfl, rfl⟩, ?_⟩
            refine Wp.pr 9 (by kernel_rfl) ?_
            refine lA rfl .no Fx.ag25 (.u rfl) (fun _ => (hbb2.rdn (m := 5) (cs' := (List.range 5).map (fun i => Value.int .u64 (s.gens i))) (rfl)).rd) (fun _ => rfl) ?_
            refine .nil ⟨⟨rfl, rfl⟩, ?_⟩
            refine Wp.b1 11 (by kernel_rfl) ?_
            refine s1 rfl (.u rfl) (.u rfl) rfl Fx.sz24 .here (by first | (show _ < 11; decide) | (show _ < 14; decide) | (show _ ≤ 14; decide)) (rfl) ?_
            refine .nil ?_
            refine Wp.one 12 (by kernel_rfl) ?_
            refine fz rfl .no Fx.fo27_2 (.u rfl) ?_
            refine .nil ?_
            refine Wp.b1 13 (by kernel_rfl) ?_
            refine s1 rfl (.u rfl) (.u rfl) rfl Fx.sz24 .here (by first | (show _ < 11; decide) | (show _ < 14; decide) | (show _ ≤ 14; decide)) (rfl) ?_
            refine .nil ?_
            refine Wp.one 14 (by kernel_rfl) ?_
            refine fz rfl .no Fx.fo27_3 (.u rfl) ?_
            refine .nil ?_
            refine Wp.b1 15 (by kernel_rfl) ?_
            refine s1 rfl (.u rfl) (.u rfl) rfl Fx.sz24 .here (by first | (show _ < 11; decide) | (show _ < 14; decide) | (show _ ≤ 14; decide)) (rfl) ?_
            refine .nil ?_
            refine Wp.one 16 (by kernel_rfl) ?_
            refine fz rfl .no Fx.fo27_4 (.u rfl) ?_
            refine .nil ?_
            refine Wp.b1 17 (by kernel_rfl) ?_
            refine s1 rfl (.u rfl) (.u rfl) rfl Fx.sz24 .here (by first | (show _ < 11; decide) | (show _ < 14; decide) | (show _ ≤ 14; decide)) (rfl) ?_
            refine .nil ?_
            refine Wp.one 18 (by kernel_rfl) ?_
            refine fz rfl .no Fx.fo27_5 (.u rfl) ?_
            refine .nil ?_
            refine Wp.b1 19 (by kernel_rfl) ?_
            refine st rfl (.u rfl) (.u rfl) rfl Fx.sz25 .here (by show 9 + 5 ≤ 14; decide) (by intro u hu; obtain ⟨i, _, rfl⟩ := List.mem_map.1 hu; rfl) ?_
            refine .nil ?_
            refine Wp.last (by kernel_rfl) ?_
            refine .code ?_
            refine .seq ?_
            refine Wk.draw (mc := ⟨false, false⟩) [0, 1, 2, 3, 4, 5, 6, 8, 10, 11, 12, 14, 15, 16, 7, 9, 13, 17, 18, 19, 20, 21, 22, 23, 24, 25, 26, 27, 28, 29, 30] Fx.mix (by kernel_rfl) ?_
            refine mv rfl .no (.u rfl) ?_
            refine mv rfl .no (.u rfl) ?_
            refine lA rfl (.t rfl rfl) Fx.ag27 (.u rfl) (fun _ => RdN.own (.there (.there .here))) (fun _ => (by first | exact State.len | exact State.len.trans State.len.symm | exact Edit.len | exact Edit.len.trans Edit.len.symm | exact nine2_len | exact nine2_len.trans State.len.symm | rfl)) ?_
            refine kv rfl (.t rfl rfl) Fx.go12 (Eva.cons (.u rfl) Eva.nil) (fun _ => vRight_ok X32 hX32 _ hR32) ?_
            refine wo_b true (hk9.2.1) ?_
            refine pkA rfl .no (.u rfl) (.u rfl) ?_
            refine mv rfl .no (.u rfl) ?_
            refine lA rfl (.t rfl rfl) Fx.ag27 (.u rfl) (fun _ => RdN.own (.there (.there .here))) (fun _ => (by first | exact State.len | exact State.len.trans State.len.symm | exact Edit.len | exact Edit.len.trans Edit.len.symm | exact nine2_len | exact nine2_len.trans State.len.symm | rfl)) ?_
            refine lA rfl (.t rfl rfl) Fx.ag27 (.u rfl) (fun _ => (hbb2.rdn (m := 14) (cs' := s.cells hd) (rfl)).rd) (fun _ => (by first | exact State.len | exact State.len.trans State.len.symm | exact Edit.len | exact Edit.len.trans Edit.len.symm | exact nine2_len | exact nine2_len.trans State.len.symm | rfl)) ?_
            refine fz rfl (.t rfl rfl) Fx.fo32_6 (.u rfl) ?_
            refine ld rfl (.t rfl rfl) Fx.ag30 (.u rfl) (fun _ => Rd.own (.there (.there (.there (.there .here)))) (by first | exact wap_f rfl | rfl)) ?_
            refine ln rfl (.t rfl rfl) Fx.sn30 (.u rfl) ?_
            refine fz rfl (.t rfl rfl) Fx.fo32_5 (.u rfl) ?_
            refine ld rfl (.t rfl rfl) Fx.ag22 (.u rfl) (fun _ => Rd.own (.there (.there (.there (.there .here)))) (by first | exact wap_f rfl | rfl)) ?_
            refine ln rfl (.t rfl rfl) Fx.sn22 (.u rfl) ?_
            refine kv rfl (.t rfl rfl) Fx.go23 (Eva.cons (.u rfl) Eva.nil) (fun _ => count18_ok X32 hX32 _ hR32) ?_
            refine kv rfl (.t rfl rfl) Fx.go23 (Eva.cons (.u rfl) Eva.nil) (fun _ => count18_ok s hd _ hs) ?_
            refine ar rfl (.t rfl rfl) (.u rfl) (.u rfl) rfl (fun _ => wrap_i64 (by omega) (by omega)) ?_
            refine ar rfl (.t rfl rfl) (.u rfl) (.u rfl) rfl (fun _ => wrap_i64 (by omega) (by omega)) ?_
            refine cp rfl (.t rfl rfl) (.u rfl) (.u rfl) rfl ?_
            refine wo_b true (by rw [app_count hA0 hE.wf]; simp) ?_
            refine pkA rfl .no (.u rfl) (.u rfl) ?_
            refine mv rfl .no (.u rfl) ?_
            refine lA rfl (.t rfl rfl) Fx.ag27 (.u rfl) (fun _ => RdN.part (n := 14) (cs' := (⟨X130.lv, s.log, s.next, s.seq, s.least, s.gens⟩ : State).cells hX130) .here (rfl)) (fun _ => (by first | exact State.len | exact State.len.trans State.len.symm | exact Edit.len | exact Edit.len.trans Edit.len.symm | exact nine2_len | exact nine2_len.trans State.len.symm | rfl)) ?_
            refine lA rfl (.t rfl rfl) Fx.ag27 (.u rfl) (fun _ => (hbb2.rdn (m := 14) (cs' := s.cells hd) (rfl)).rd) (fun _ => (by first | exact State.len | exact State.len.trans State.len.symm | exact Edit.len | exact Edit.len.trans Edit.len.symm | exact nine2_len | exact nine2_len.trans State.len.symm | rfl)) ?_
            refine kv rfl (.t rfl rfl) Fx.go22 (Eva.cons (.u rfl) (Eva.cons (.u rfl) Eva.nil)) (fun _ => sameS_ok ⟨X130.lv, s.log, s.next, s.seq, s.least, s.gens⟩ s hX130 hd _ ⟨hR130.lv, hR130.len, hR130.wf⟩ hs hgs hgs (fun i hi => by have := hA130.len hi; show (X130.lv i).length ≤ _; omega)) ?_
            refine wo_b true (sameS_of ⟨hk9.2.2, rfl, rfl, rfl, rfl, rfl⟩) ?_
            refine pkA rfl .no (.u rfl) (.u rfl) ?_
            refine mv rfl .no (.u rfl) ?_
            refine lA rfl (.t rfl rfl) Fx.ag27 (.u rfl) (fun _ => RdN.own (.there (.there (.there .here)))) (fun _ => (by first | exact State.len | exact State.len.trans State.len.symm | exact Edit.len | exact Edit.len.trans Edit.len.symm | exact nine2_len | exact nine2_len.trans State.len.symm | rfl)) ?_
            refine lA rfl (.t rfl rfl) Fx.ag27 (.u rfl) (fun _ => (hbb2.rdn (m := 14) (cs' := s.cells hd) (rfl)).rd) (fun _ => (by first | exact State.len | exact State.len.trans State.len.symm | exact Edit.len | exact Edit.len.trans Edit.len.symm | exact nine2_len | exact nine2_len.trans State.len.symm | rfl)) ?_
            refine kv rfl (.t rfl rfl) Fx.go22 (Eva.cons (.u rfl) (Eva.cons (.u rfl) Eva.nil)) (fun _ => sameS_ok s s _ _ _ hs hs hgs hgs (fun i hi => by have := lv_tot s hi; omega)) ?_
            refine wo_b true (sameS_of (EqS.refl s)) ?_
            refine pkA rfl .no (.u rfl) (.u rfl) ?_
            refine asg rfl .no (.u rfl) ?_
            refine .nil ?_
            refine .code ?_
            refine .ret ?_
            refine We.fin0 Try.results7 (.tmp rfl .nil) ?_
            exact ⟨rfl, rfl⟩

end Go.Proofs.Ytnhdaaggkdegpaa
