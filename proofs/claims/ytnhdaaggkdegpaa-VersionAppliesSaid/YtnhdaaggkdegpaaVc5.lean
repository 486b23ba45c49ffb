/- Lemmas and contracts, joined: Contracts of functions, walked. The document's way: levels that are replaced one by one. Plain data. No condition. -/
import Derived.Test.YtnhdaaggkdegpaaVc4
set_option linter.unusedSimpArgs false
set_option linter.unusedVariables false
set_option linter.unusedSectionVars false
namespace Go.Proofs.Ytnhdaaggkdegpaa
set_option linter.unusedSimpArgs false
set_option linter.unusedVariables false
open Go.Tan Go.RowKit

namespace Fx
theorem go54 : goFn Try.prog 54 = true := by kernel_rfl
theorem go52 : goFn Try.prog 52 = true := by kernel_rfl
theorem zr3 : zrL Try.prog 3 = some ([.int .i64 0]) := by kernel_rfl
theorem go53 : goFn Try.prog 53 = true := by kernel_rfl
end Fx
set_option maxHeartbeats 8000000 in
theorem apply_ok (s : State) (hd : Nat → Sh) (e : Edit) (ha he : Sh) (G : PM) (hs : StR G s hd) (hE : EdR G e ha he) : Ct Try.prog 20 ([s.val hd, e.val ha he] : List Value).toArray G [] (fun G' μ' u => ∃ X hdX err, AppR s e X err ∧ μ' = [] ∧ u = .tuple #[State.val X hdX, .int .i64 err] ∧ StR G' X hdX) := by
  refine Ct.of Try.func20 rfl Try.ntmps20 rfl fun w0 hs0 => ?_
  have hea := hE.add; have hed := hE.drop
  refine .seq ?_
  refine Wk.rg [0, 1, 2, 3] rfl rfl ?_
  refine bx rfl (.u rfl) rfl ?_; intro b2
  refine bx rfl (.u rfl) rfl ?_; intro b3
  refine al rfl Fx.zr27 ?_; intro b4
  refine asg rfl .no (.u rfl) ?_
  refine .nil ?_
  refine .code ?_
  refine .seq ?_
  refine .seq ?_
  refine Wk.rg [0, 1, 2] rfl rfl ?_
  refine lA rfl .no Fx.ag27 (.u rfl) (fun _ => RdN.own (.there (.there .here))) (fun _ => (by first | exact State.len | exact State.len.trans State.len.symm | exact Edit.len | exact Edit.len.trans Edit.len.symm | exact nine2_len | exact nine2_len.trans State.len.symm | rfl)) ?_
  refine kv rfl .no Fx.go12 (Eva.cons (.u rfl) Eva.nil) (fun _ => vRight_ok s hd _ hs) ?_
  refine nt rfl .no (.u rfl) ?_
  refine .nil ?_
  refine .code ?_
  refine .cond rfl (fun c1 => ?_) (fun c1 => ?_)
  · have c1k := c1
    try simp only [decide_eq_true_eq, decide_eq_false_iff_not, Int.not_lt, Int.not_le, gt_iff_lt, ge_iff_le, Bool.or_eq_true, Bool.and_eq_true, Bool.or_eq_false_iff, Bool.and_eq_false_iff, Bool.not_eq_true', Bool.not_eq_false', Int.toNat_natCast, bne_iff_ne, beq_iff_eq, bne_eq_false_iff_eq, beq_eq_false_iff_ne, ne_eq] at c1
    refine .seq ?_
    refine Wk.rg [0, 1, 2] rfl rfl ?_
    refine bC rfl .no Fx.bp27_ .nil rfl ?_
    refine sw rfl (.u rfl) (.u rfl) rfl Fx.sz27 .here (by first | exact State.len | exact State.len.trans State.len.symm | exact Edit.len | exact Edit.len.trans Edit.len.symm | exact nine2_len | exact nine2_len.trans State.len.symm | rfl) (State.one') ?_
    refine asg rfl .no (.u rfl) ?_
    refine .nil ?_
    refine .code ?_
    refine .ret ?_
    refine We.fin0 Try.results20 (.cell rfl (fun w hw => run_loadVarN Fx.ag27 (RdN.own .here) ((by first | exact State.len | exact State.len.trans State.len.symm | exact Edit.len | exact Edit.len.trans Edit.len.symm | exact nine2_len | exact nine2_len.trans State.len.symm | rfl)) hw) (.tmp rfl .nil)) ?_
    exact ⟨State.zero, hd0, 1, .inl ⟨by simpa using c1k, rfl, rfl⟩, rfl, rfl, st_zero⟩
  · have c1k := c1
    try simp only [decide_eq_true_eq, decide_eq_false_iff_not, Int.not_lt, Int.not_le, gt_iff_lt, ge_iff_le, Bool.or_eq_true, Bool.and_eq_true, Bool.or_eq_false_iff, Bool.and_eq_false_iff, Bool.not_eq_true', Bool.not_eq_false', Int.toNat_natCast, bne_iff_ne, beq_iff_eq, bne_eq_false_iff_eq, beq_eq_false_iff_ne, ne_eq] at c1
    refine .skip ?_
    refine .code ?_
    refine .seq ?_
    refine .seq ?_
    have hri : rightS s = true := by simpa using c1k
    have hri' := rightP_of hri
    refine Wk.rg [0, 1, 2, 3, 4, 5, 6, 7, 8, 9, 10, 11, 12, 13, 14] rfl rfl ?_
    refine fz rfl .no Fx.fo32_5 (.u rfl) ?_
    refine ld rfl .no Fx.ag22 (.u rfl) (fun _ => Rd.own (.there .here) (by first | exact wap_f rfl | rfl)) ?_
    refine ln rfl .no Fx.sn22 (.u rfl) ?_
    refine cp rfl .no (.u rfl) (.u rfl) rfl ?_
    refine mv rfl .no (.u rfl) ?_
    refine fz rfl (.f rfl rfl) Fx.fo32_6 (.u rfl) ?_
    refine ld rfl (.f rfl rfl) Fx.ag30 (.s rfl) (fun hc => Rd.own (.there .here) (by first | exact wap_f rfl | rfl)) ?_
    refine ln rfl (.f rfl rfl) Fx.sn30 (.s rfl) ?_
    refine cp rfl (.f rfl rfl) (.s rfl) (.u rfl) rfl ?_
    refine pkO rfl .no (.u rfl) (.s rfl) ?_
    refine mv rfl .no (.u rfl) ?_
    refine lA rfl (.f rfl rfl) Fx.ag27 (.u rfl) (fun _ => RdN.own (.there (.there .here))) (fun _ => (by first | exact State.len | exact State.len.trans State.len.symm | exact Edit.len | exact Edit.len.trans Edit.len.symm | exact nine2_len | exact nine2_len.trans State.len.symm | rfl)) ?_
    refine lA rfl (.f rfl rfl) Fx.ag32 (.u rfl) (fun _ => RdN.own (.there .here)) (fun _ => (by first | exact State.len | exact State.len.trans State.len.symm | exact Edit.len | exact Edit.len.trans Edit.len.symm | exact nine2_len | exact nine2_len.trans State.len.symm | rfl)) ?_
    refine kv rfl (.f rfl rfl) Fx.go48 (Eva.cons (.s rfl) (Eva.cons (.s rfl) Eva.nil)) (fun hc => before_ok s hd _ e ha he) ?_
    refine pkO rfl .no (.u rfl) (.s rfl) ?_
    refine .nil ?_
    refine .code ?_
    refine .cond rfl (fun c2 => ?_) (fun c2 => ?_)
    · have c2k := c2
      try simp only [decide_eq_true_eq, decide_eq_false_iff_not, Int.not_lt, Int.not_le, gt_iff_lt, ge_iff_le, Bool.or_eq_true, Bool.and_eq_true, Bool.or_eq_false_iff, Bool.and_eq_false_iff, Bool.not_eq_true', Bool.not_eq_false', Int.toNat_natCast, bne_iff_ne, beq_iff_eq, bne_eq_false_iff_eq, beq_eq_false_iff_ne, ne_eq] at c2
      refine .seq ?_
      refine Wk.rg [0, 1, 2] rfl rfl ?_
      refine bC rfl .no Fx.bp27_ .nil rfl ?_
      refine sw rfl (.u rfl) (.u rfl) rfl Fx.sz27 .here (by first | exact State.len | exact State.len.trans State.len.symm | exact Edit.len | exact Edit.len.trans Edit.len.symm | exact nine2_len | exact nine2_len.trans State.len.symm | rfl) (State.one') ?_
      refine asg rfl .no (.u rfl) ?_
      refine .nil ?_
      refine .code ?_
      refine .ret ?_
      refine We.fin0 Try.results20 (.cell rfl (fun w hw => run_loadVarN Fx.ag27 (RdN.own .here) ((by first | exact State.len | exact State.len.trans State.len.symm | exact Edit.len | exact Edit.len.trans Edit.len.symm | exact nine2_len | exact nine2_len.trans State.len.symm | rfl)) hw) (.tmp rfl .nil)) ?_
      exact ⟨State.zero, hd0, 180, .inr (.inl ⟨hri, ap_head c2k, rfl, rfl⟩), rfl, rfl, st_zero⟩
    · have c2k := c2
      try simp only [decide_eq_true_eq, decide_eq_false_iff_not, Int.not_lt, Int.not_le, gt_iff_lt, ge_iff_le, Bool.or_eq_true, Bool.and_eq_true, Bool.or_eq_false_iff, Bool.and_eq_false_iff, Bool.not_eq_true', Bool.not_eq_false', Int.toNat_natCast, bne_iff_ne, beq_iff_eq, bne_eq_false_iff_eq, beq_eq_false_iff_ne, ne_eq] at c2
      refine .skip ?_
      refine .code ?_
      refine .seq ?_
      obtain ⟨hok, hla, hld⟩ := ok_head c2k
      have hfw := hri'.few
      refine Wk.rg [0, 1, 2, 3, 4, 5, 6, 7, 8, 9, 10, 11, 12, 13, 14] rfl rfl ?_
      refine fz rfl .no Fx.fo32_0 (.u rfl) ?_
      refine ld rfl .no Fx.ag24 (.u rfl) (fun _ => Rd.own (.there .here) (by first | exact wap_f rfl | rfl)) ?_
      refine fz rfl .no Fx.fo32_1 (.u rfl) ?_
      refine ld rfl .no Fx.ag24 (.u rfl) (fun _ => Rd.own (.there .here) (by first | exact wap_f rfl | rfl)) ?_
      refine fz rfl .no Fx.fo32_2 (.u rfl) ?_
      refine ld rfl .no Fx.ag24 (.u rfl) (fun _ => Rd.own (.there .here) (by first | exact wap_f rfl | rfl)) ?_
      refine fz rfl .no Fx.fo32_3 (.u rfl) ?_
      refine ld rfl .no Fx.ag24 (.u rfl) (fun _ => Rd.own (.there .here) (by first | exact wap_f rfl | rfl)) ?_
      refine fz rfl .no Fx.fo32_4 (.u rfl) ?_
      refine lA rfl .no Fx.ag25 (.u rfl) (fun _ => RdN.part (n := 5) (cs' := (List.range 5).map (fun i => .int .u64 (e.gens i))) (.there .here) (rfl)) (fun _ => rfl) ?_
      refine fz rfl .no Fx.fo27_0 (.u rfl) ?_
      refine lA rfl .no Fx.ag23 (.u rfl) (fun _ => RdN.part (n := 5) (cs' := (List.range 5).map (fun i => (hd i).val (s.lv i).length)) (.there (.there .here)) (rfl)) (fun _ => rfl) ?_
      refine bCe (xC ((hd 0).val (s.lv 0).length) ((hd 1).val (s.lv 1).length) ((hd 2).val (s.lv 2).length) ((hd 3).val (s.lv 3).length) ((hd 4).val (s.lv 4).length) e) rfl .no Fx.bp27_1_2_3_4_5_0 (.cons (.u rfl) rfl (.cons (.u rfl) rfl (.cons (.u rfl) rfl (.cons (.u rfl) rfl (.cons (.u rfl) rfl (.cons (.u rfl) rfl .nil)))))) rfl (rfl) ?_
      refine al rfl Fx.zr27 ?_; intro b6
      refine sw rfl (.u rfl) (.u rfl) rfl Fx.sz27 .here (by first | exact State.len | exact State.len.trans State.len.symm | exact Edit.len | exact Edit.len.trans Edit.len.symm | exact nine2_len | exact nine2_len.trans State.len.symm | rfl) (xC_one rfl rfl rfl rfl rfl) ?_
      refine .nil ?_
      refine .code ?_
      refine .seq ?_
      refine .seq ?_
      refine wk_nilS 40 Meta.cells 48 ?_
      refine wk_nilS 40 Meta.cells 48 ?_
      refine wk_nilS 40 Meta.cells 48 ?_
      refine wk_nilS 40 Meta.cells 48 ?_
      refine wk_nilS 40 Meta.cells 48 ?_
      refine Wk.rg [0] rfl rfl ?_
      refine mv rfl .no (.u rfl) ?_
      refine .nil ?_
      refine .code ?_
      refine .block ?_
      refine Wk.lop (α := Nat × Value × Value × Value × Value × Value) (fun gh => [(49, true, .int .i64 (gh.1 : Int))]) (fun gh => [rS 40 Meta.cells gh.2.2.2.2.2 48 (pk gh.1 4 (s.lv 4) []), rS 40 Meta.cells gh.2.2.2.2.1 48 (pk gh.1 3 (s.lv 3) []), rS 40 Meta.cells gh.2.2.2.1 48 (pk gh.1 2 (s.lv 2) []), rS 40 Meta.cells gh.2.2.1 48 (pk gh.1 1 (s.lv 1) []), rS 40 Meta.cells gh.2.1 48 (pk gh.1 0 (s.lv 0) []), .blk b6 (cl (xC (pk gh.1 0 gh.2.1 ((hd 0).val (s.lv 0).length)) (pk gh.1 1 gh.2.2.1 ((hd 1).val (s.lv 1).length)) (pk gh.1 2 gh.2.2.2.1 ((hd 2).val (s.lv 2).length)) (pk gh.1 3 gh.2.2.2.2.1 ((hd 3).val (s.lv 3).length)) (pk gh.1 4 gh.2.2.2.2.2 ((hd 4).val (s.lv 4).length)) e) 27)])
        (fun gh Gl => (gh.1 ≤ 5)) (fun gh => 5 - gh.1) (0, .slice none 0 0, .slice none 0 0, .slice none 0 0, .slice none 0 0, .slice none 0 0) [(3, true, _), (4, true, _), (6, true, _)] [_, _, _]
        (ESub.cons rfl (by first | rfl | exact evi (by omega)) (ESub.cons rfl rfl (ESub.cons rfl rfl (ESub.cons rfl rfl ESub.nil))))
        (MSub.cons .here rfl (MSub.cons .here rfl (MSub.cons .here rfl (MSub.cons .here rfl (MSub.cons .here rfl (MSub.cons .here rfl (MSub.cons .here rfl (MSub.cons .here rfl (MSub.cons .here rfl MSub.nil))))))))) ?_ ?_
      · (try dsimp only) <;> (first | omega | rfl | assumption | (simp; done))
      intro gh N0 Gl0 hN0 hGl0 hF0
      obtain ⟨k, w0, w1, w2, w3, w4⟩ := gh; dsimp only at hF0 hN0 ⊢
      have hk := hF0
      have hs := hs.mono hGl0
      have hea := hea.mono hGl0
      have hed := hed.mono hGl0
      refine .seq ?_
      refine Wk.rg [0] rfl rfl ?_
      refine cp rfl .no (.u rfl) (.u rfl) rfl ?_
      refine .nil ?_
      refine .code ?_
      refine .seq ?_
      refine .cond rfl (fun c3 => ?_) (fun c3 => ?_)
      · have c3k := c3
        try simp only [decide_eq_true_eq, decide_eq_false_iff_not, Int.not_lt, Int.not_le, gt_iff_lt, ge_iff_le, Bool.or_eq_true, Bool.and_eq_true, Bool.or_eq_false_iff, Bool.and_eq_false_iff, Bool.not_eq_true', Bool.not_eq_false', Int.toNat_natCast, bne_iff_ne, beq_iff_eq, bne_eq_false_iff_eq, beq_eq_false_iff_ne, ne_eq] at c3
        refine .skip ?_
        refine .code ?_
        refine .seq ?_
        refine .block ?_
        refine .seq ?_
        refine Wk.rg [0, 1] rfl rfl ?_
        refine mv rfl .no (.u rfl) ?_
        refine asg rfl .no (.u rfl) ?_
        refine .nil ?_
        refine .code ?_
        rcases (show k = 0 ∨ k = 1 ∨ k = 2 ∨ k = 3 ∨ k = 4 by omega) with rfl | rfl | rfl | rfl | rfl
        · refine Wk.rg [0, 1, 2, 3, 4, 5, 6, 7, 8] rfl rfl ?_
          refine mv rfl .no (.u rfl) ?_
          refine mv rfl .no (.u rfl) ?_
          refine fz rfl .no Fx.fo27_0 (.u rfl) ?_
          refine iA rfl .no Fx.ar23 (.u rfl) (.u rfl) (fun _ => by omega) (fun _ => by omega) ?_
          refine ld (v := ((hd 0).val (s.lv 0).length)) rfl .no Fx.ag22 (.u rfl) (fun _ => Rd.own (.there (.there (.there (.there (.there .here))))) rfl) ?_
          refine kc rfl Fx.go49 (Eva.cons (.u rfl) Eva.nil) (clone_ok (hd 0) (s.lv 0) _ (hs.lv 0 (by decide)) (by have := lv_tot s (i := 0) (by decide); omega)) ?_
          rintro v57 G57 μ57 hG57 ⟨ov57, rfl⟩
          have hs := hs.mono hG57
          have hea := hea.mono hG57
          have hed := hed.mono hG57
          refine fz rfl .no Fx.fo27_0 (.u rfl) ?_
          refine iA rfl .no Fx.ar23 (.u rfl) (.u rfl) (fun _ => by omega) (fun _ => by omega) ?_
          refine s1v rfl (.u rfl) (.u rfl) .here Fx.sz22 (.there (.there (.there (.there (.there (.there .here)))))) (by show _ < 14; decide) (rfl) ?_
          refine .nil ?_
          refine .blk ?_
          refine .code ?_
          refine Wk.rg [0, 1] rfl rfl ?_
          refine arn (((0 + 1) : Nat) : Int) rfl .no (.u rfl) (.u rfl) rfl (fun _ => by omega) (fun _ => wrap_i64 (by omega) (by omega)) ?_
          refine mv rfl .no (.u rfl) ?_
          refine .nil ?_
          refine We.lpo (1, v57, w1, w2, w3, w4) ?_ ?_ ?_ ?_ ?_
          · exact (ESub.cons rfl (by first | rfl | exact evi (by omega)) (ESub.cons rfl rfl (ESub.cons rfl rfl (ESub.cons rfl rfl ESub.nil))))
          · exact (MSub.cons (.there (.there .here)) rfl (MSub.cons (.there (.there .here)) rfl (MSub.cons (.there (.there .here)) rfl (MSub.cons (.there (.there .here)) rfl (MSub.cons (.there .here) rfl (MSub.cons .here rfl (MSub.cons (.there .here) rfl (MSub.cons (.there .here) rfl (MSub.cons (.there .here) rfl MSub.nil)))))))))
          · first | omega | (dsimp only; omega)
          · exact (hGl0).trans hG57
          · (try dsimp only) <;> (first | omega | rfl | assumption | (simp; done))
        · refine Wk.rg [0, 1, 2, 3, 4, 5, 6, 7, 8] rfl rfl ?_
          refine mv rfl .no (.u rfl) ?_
          refine mv rfl .no (.u rfl) ?_
          refine fz rfl .no Fx.fo27_0 (.u rfl) ?_
          refine iA rfl .no Fx.ar23 (.u rfl) (.u rfl) (fun _ => by omega) (fun _ => by omega) ?_
          refine ld (v := ((hd 1).val (s.lv 1).length)) rfl .no Fx.ag22 (.u rfl) (fun _ => Rd.own (.there (.there (.there (.there (.there .here))))) rfl) ?_
          refine kc rfl Fx.go49 (Eva.cons (.u rfl) Eva.nil) (clone_ok (hd 1) (s.lv 1) _ (hs.lv 1 (by decide)) (by have := lv_tot s (i := 1) (by decide); omega)) ?_
          rintro v57 G57 μ57 hG57 ⟨ov57, rfl⟩
          have hs := hs.mono hG57
          have hea := hea.mono hG57
          have hed := hed.mono hG57
          refine fz rfl .no Fx.fo27_0 (.u rfl) ?_
          refine iA rfl .no Fx.ar23 (.u rfl) (.u rfl) (fun _ => by omega) (fun _ => by omega) ?_
          refine s1v rfl (.u rfl) (.u rfl) .here Fx.sz22 (.there (.there (.there (.there (.there (.there .here)))))) (by show _ < 14; decide) (rfl) ?_
          refine .nil ?_
          refine .blk ?_
          refine .code ?_
          refine Wk.rg [0, 1] rfl rfl ?_
          refine arn (((1 + 1) : Nat) : Int) rfl .no (.u rfl) (.u rfl) rfl (fun _ => by omega) (fun _ => wrap_i64 (by omega) (by omega)) ?_
          refine mv rfl .no (.u rfl) ?_
          refine .nil ?_
          refine We.lpo (2, w0, v57, w2, w3, w4) ?_ ?_ ?_ ?_ ?_
          · exact (ESub.cons rfl (by first | rfl | exact evi (by omega)) (ESub.cons rfl rfl (ESub.cons rfl rfl (ESub.cons rfl rfl ESub.nil))))
          · exact (MSub.cons (.there (.there .here)) rfl (MSub.cons (.there (.there .here)) rfl (MSub.cons (.there (.there .here)) rfl (MSub.cons (.there .here) rfl (MSub.cons (.there (.there .here)) rfl (MSub.cons .here rfl (MSub.cons (.there .here) rfl (MSub.cons (.there .here) rfl (MSub.cons (.there .here) rfl MSub.nil)))))))))
          · first | omega | (dsimp only; omega)
          · exact (hGl0).trans hG57
          · (try dsimp only) <;> (first | omega | rfl | assumption | (simp; done))
        · refine Wk.rg [0, 1, 2, 3, 4, 5, 6, 7, 8] rfl rfl ?_
          refine mv rfl .no (.u rfl) ?_
          refine mv rfl .no (.u rfl) ?_
          refine fz rfl .no Fx.fo27_0 (.u rfl) ?_
          refine iA rfl .no Fx.ar23 (.u rfl) (.u rfl) (fun _ => by omega) (fun _ => by omega) ?_
          refine ld (v := ((hd 2).val (s.lv 2).length)) rfl .no Fx.ag22 (.u rfl) (fun _ => Rd.own (.there (.there (.there (.there (.there .here))))) rfl) ?_
          refine kc rfl Fx.go49 (Eva.cons (.u rfl) Eva.nil) (clone_ok (hd 2) (s.lv 2) _ (hs.lv 2 (by decide)) (by have := lv_tot s (i := 2) (by decide); omega)) ?_
          rintro v57 G57 μ57 hG57 ⟨ov57, rfl⟩
          have hs := hs.mono hG57
          have hea := hea.mono hG57
          have hed := hed.mono hG57
          refine fz rfl .no Fx.fo27_0 (.u rfl) ?_
          refine iA rfl .no Fx.ar23 (.u rfl) (.u rfl) (fun _ => by omega) (fun _ => by omega) ?_
          refine s1v rfl (.u rfl) (.u rfl) .here Fx.sz22 (.there (.there (.there (.there (.there (.there .here)))))) (by show _ < 14; decide) (rfl) ?_
          refine .nil ?_
          refine .blk ?_
          refine .code ?_
          refine Wk.rg [0, 1] rfl rfl ?_
          refine arn (((2 + 1) : Nat) : Int) rfl .no (.u rfl) (.u rfl) rfl (fun _ => by omega) (fun _ => wrap_i64 (by omega) (by omega)) ?_
          refine mv rfl .no (.u rfl) ?_
          refine .nil ?_
          refine We.lpo (3, w0, w1, v57, w3, w4) ?_ ?_ ?_ ?_ ?_
          · exact (ESub.cons rfl (by first | rfl | exact evi (by omega)) (ESub.cons rfl rfl (ESub.cons rfl rfl (ESub.cons rfl rfl ESub.nil))))
          · exact (MSub.cons (.there (.there .here)) rfl (MSub.cons (.there (.there .here)) rfl (MSub.cons (.there .here) rfl (MSub.cons (.there (.there .here)) rfl (MSub.cons (.there (.there .here)) rfl (MSub.cons .here rfl (MSub.cons (.there .here) rfl (MSub.cons (.there .here) rfl (MSub.cons (.there .here) rfl MSub.nil)))))))))
          · first | omega | (dsimp only; omega)
          · exact (hGl0).trans hG57
          · (try dsimp only) <;> (first | omega | rfl | assumption | (simp; done))
        · refine Wk.rg [0, 1, 2, 3, 4, 5, 6, 7, 8] rfl rfl ?_
          refine mv rfl .no (.u rfl) ?_
          refine mv rfl .no (.u rfl) ?_
          refine fz rfl .no Fx.fo27_0 (.u rfl) ?_
          refine iA rfl .no Fx.ar23 (.u rfl) (.u rfl) (fun _ => by omega) (fun _ => by omega) ?_
          refine ld (v := ((hd 3).val (s.lv 3).length)) rfl .no Fx.ag22 (.u rfl) (fun _ => Rd.own (.there (.there (.there (.there (.there .here))))) rfl) ?_
          refine kc rfl Fx.go49 (Eva.cons (.u rfl) Eva.nil) (clone_ok (hd 3) (s.lv 3) _ (hs.lv 3 (by decide)) (by have := lv_tot s (i := 3) (by decide); omega)) ?_
          rintro v57 G57 μ57 hG57 ⟨ov57, rfl⟩
          have hs := hs.mono hG57
          have hea := hea.mono hG57
          have hed := hed.mono hG57
          refine fz rfl .no Fx.fo27_0 (.u rfl) ?_
          refine iA rfl .no Fx.ar23 (.u rfl) (.u rfl) (fun _ => by omega) (fun _ => by omega) ?_
          refine s1v rfl (.u rfl) (.u rfl) .here Fx.sz22 (.there (.there (.there (.there (.there (.there .here)))))) (by show _ < 14; decide) (rfl) ?_
          refine .nil ?_
          refine .blk ?_
          refine .code ?_
          refine Wk.rg [0, 1] rfl rfl ?_
          refine arn (((3 + 1) : Nat) : Int) rfl .no (.u rfl) (.u rfl) rfl (fun _ => by omega) (fun _ => wrap_i64 (by omega) (by omega)) ?_
          refine mv rfl .no (.u rfl) ?_
          refine .nil ?_
          refine We.lpo (4, w0, w1, w2, v57, w4) ?_ ?_ ?_ ?_ ?_
          · exact (ESub.cons rfl (by first | rfl | exact evi (by omega)) (ESub.cons rfl rfl (ESub.cons rfl rfl (ESub.cons rfl rfl ESub.nil))))
          · exact (MSub.cons (.there (.there .here)) rfl (MSub.cons (.there .here) rfl (MSub.cons (.there (.there .here)) rfl (MSub.cons (.there (.there .here)) rfl (MSub.cons (.there (.there .here)) rfl (MSub.cons .here rfl (MSub.cons (.there .here) rfl (MSub.cons (.there .here) rfl (MSub.cons (.there .here) rfl MSub.nil)))))))))
          · first | omega | (dsimp only; omega)
          · exact (hGl0).trans hG57
          · (try dsimp only) <;> (first | omega | rfl | assumption | (simp; done))
        · refine Wk.rg [0, 1, 2, 3, 4, 5, 6, 7, 8] rfl rfl ?_
          refine mv rfl .no (.u rfl) ?_
          refine mv rfl .no (.u rfl) ?_
          refine fz rfl .no Fx.fo27_0 (.u rfl) ?_
          refine iA rfl .no Fx.ar23 (.u rfl) (.u rfl) (fun _ => by omega) (fun _ => by omega) ?_
          refine ld (v := ((hd 4).val (s.lv 4).length)) rfl .no Fx.ag22 (.u rfl) (fun _ => Rd.own (.there (.there (.there (.there (.there .here))))) rfl) ?_
          refine kc rfl Fx.go49 (Eva.cons (.u rfl) Eva.nil) (clone_ok (hd 4) (s.lv 4) _ (hs.lv 4 (by decide)) (by have := lv_tot s (i := 4) (by decide); omega)) ?_
          rintro v57 G57 μ57 hG57 ⟨ov57, rfl⟩
          have hs := hs.mono hG57
          have hea := hea.mono hG57
          have hed := hed.mono hG57
          refine fz rfl .no Fx.fo27_0 (.u rfl) ?_
          refine iA rfl .no Fx.ar23 (.u rfl) (.u rfl) (fun _ => by omega) (fun _ => by omega) ?_
          refine s1v rfl (.u rfl) (.u rfl) .here Fx.sz22 (.there (.there (.there (.there (.there (.there .here)))))) (by show _ < 14; decide) (rfl) ?_
          refine .nil ?_
          refine .blk ?_
          refine .code ?_
          refine Wk.rg [0, 1] rfl rfl ?_
          refine arn (((4 + 1) : Nat) : Int) rfl .no (.u rfl) (.u rfl) rfl (fun _ => by omega) (fun _ => wrap_i64 (by omega) (by omega)) ?_
          refine mv rfl .no (.u rfl) ?_
          refine .nil ?_
          refine We.lpo (5, w0, w1, w2, w3, v57) ?_ ?_ ?_ ?_ ?_
          · exact (ESub.cons rfl (by first | rfl | exact evi (by omega)) (ESub.cons rfl rfl (ESub.cons rfl rfl (ESub.cons rfl rfl ESub.nil))))
          · exact (MSub.cons (.there .here) rfl (MSub.cons (.there (.there .here)) rfl (MSub.cons (.there (.there .here)) rfl (MSub.cons (.there (.there .here)) rfl (MSub.cons (.there (.there .here)) rfl (MSub.cons .here rfl (MSub.cons (.there .here) rfl (MSub.cons (.there .here) rfl (MSub.cons (.there .here) rfl MSub.nil)))))))))
          · first | omega | (dsimp only; omega)
          · exact (hGl0).trans hG57
          · (try dsimp only) <;> (first | omega | rfl | assumption | (simp; done))
      · have c3k := c3
        try simp only [decide_eq_true_eq, decide_eq_false_iff_not, Int.not_lt, Int.not_le, gt_iff_lt, ge_iff_le, Bool.or_eq_true, Bool.and_eq_true, Bool.or_eq_false_iff, Bool.and_eq_false_iff, Bool.not_eq_true', Bool.not_eq_false', Int.toNat_natCast, bne_iff_ne, beq_iff_eq, bne_eq_false_iff_eq, beq_eq_false_iff_ne, ne_eq] at c3
        refine .exit ?_
        refine .xcode ?_
        refine .xlp ?_
        refine .xblk ?_
        refine .code ?_
        refine .seq ?_
        refine .seq ?_
        refine Wk.rg [0, 1, 2, 3] rfl rfl ?_
        refine fz rfl .no Fx.fo32_6 (.u rfl) ?_
        refine ld rfl .no Fx.ag30 (.u rfl) (fun _ => Rd.own (.there (.there (.there (.there (.there (.there (.there .here))))))) (by first | exact wap_f rfl | rfl)) ?_
        refine ln rfl .no Fx.sn30 (.u rfl) ?_
        refine mv rfl .no (.u rfl) ?_
        refine .nil ?_
        refine .code ?_
        refine .block ?_
        obtain rfl : k = 5 := by omega
        refine Wk.lop (α := Nat × Value × Value × Value × Value × Value × Lvs) (fun gh => [(64, true, .int .i64 (gh.1 : Int))]) (fun gh => [rS 40 Meta.cells gh.2.2.2.2.2.1 48 (gh.2.2.2.2.2.2 4), rS 40 Meta.cells gh.2.2.2.2.1 48 (gh.2.2.2.2.2.2 3), rS 40 Meta.cells gh.2.2.2.1 48 (gh.2.2.2.2.2.2 2), rS 40 Meta.cells gh.2.2.1 48 (gh.2.2.2.2.2.2 1), rS 40 Meta.cells gh.2.1 48 (gh.2.2.2.2.2.2 0), .blk b6 (cl (xC gh.2.1 gh.2.2.1 gh.2.2.2.1 gh.2.2.2.2.1 gh.2.2.2.2.2.1 e) 27)])
          (fun gh Gl => (gh.1 ≤ e.drop.length) ∧ (foldO dropF (e.drop.take gh.1) s.lv = some gh.2.2.2.2.2.2)) (fun gh => e.drop.length - gh.1) (0, w0, w1, w2, w3, w4, s.lv) [(3, true, _), (4, true, _), (6, true, _), (62, true, _), (63, true, _)] [_, _, _]
          (ESub.cons rfl (by first | rfl | exact evi (by omega)) (ESub.cons rfl rfl (ESub.cons rfl rfl (ESub.cons rfl rfl (ESub.cons rfl rfl (ESub.cons rfl rfl ESub.nil))))))
          (MSub.cons .here rfl (MSub.cons .here rfl (MSub.cons .here rfl (MSub.cons .here rfl (MSub.cons .here rfl (MSub.cons .here rfl (MSub.cons .here rfl (MSub.cons .here rfl (MSub.cons .here rfl MSub.nil))))))))) ?_ ?_
        · refine ⟨?_, ?_⟩
          · (try dsimp only) <;> (first | omega | rfl | assumption | (simp; done))
          · (try dsimp only) <;> (rfl)
        intro gh N1 Gl1 hN1 hGl1 hF1
        obtain ⟨j, w0, w1, w2, w3, w4, L⟩ := gh; dsimp only at hF1 hN1 ⊢
        obtain ⟨hj, hL⟩ := hF1
        have hs := hs.mono hGl1
        have hea := hea.mono hGl1
        have hed := hed.mono hGl1
        refine .seq ?_
        refine Wk.rg [0] rfl rfl ?_
        refine cp rfl .no (.u rfl) (.u rfl) rfl ?_
        refine .nil ?_
        refine .code ?_
        refine .seq ?_
        refine .cond rfl (fun c4 => ?_) (fun c4 => ?_)
        · have c4k := c4
          try simp only [decide_eq_true_eq, decide_eq_false_iff_not, Int.not_lt, Int.not_le, gt_iff_lt, ge_iff_le, Bool.or_eq_true, Bool.and_eq_true, Bool.or_eq_false_iff, Bool.and_eq_false_iff, Bool.not_eq_true', Bool.not_eq_false', Int.toNat_natCast, bne_iff_ne, beq_iff_eq, bne_eq_false_iff_eq, beq_eq_false_iff_ne, ne_eq] at c4
          refine .skip ?_
          refine .code ?_
          refine .seq ?_
          refine .block ?_
          refine .seq ?_
          refine Wk.rg [0, 1, 2, 3] rfl rfl ?_
          obtain ⟨g, eg⟩ := getx (k := j) (xs := e.drop) (by omega)
          have hwg := (hE.wf.drop g (List.mem_of_getElem? eg)).level
          refine ih rfl .no Fx.se30 (.u rfl) (.u rfl) (fun _ => by omega) (fun _ => by omega) (fun _ => hed.nn (k := j) (by first | omega | (simp only [Bool.and_eq_true, decide_eq_true_eq] at hc; omega) | (simp only [List.length_cons, List.length_nil]; omega))) ?_
          refine lA rfl .no Fx.ag51 (.u rfl) (fun _ => (hed.at (by omega) eg).rd) (fun _ => rfl) ?_
          refine al rfl Fx.zr51 ?_; intro b9
          refine sw rfl (.u rfl) (.u rfl) rfl Fx.sz51 .here rfl (gones1) ?_
          refine .nil ?_
          refine .code ?_
          refine .seq ?_
          refine .seq ?_
          refine Wk.rg [0, 1, 2] rfl rfl ?_
          refine fz rfl .no Fx.fo51_0 (.u rfl) ?_
          refine ld rfl .no Fx.ag5 (.u rfl) (fun _ => Rd.own .here (by first | exact wap_f rfl | rfl)) ?_
          refine cp rfl .no (.u rfl) (.u rfl) rfl ?_
          refine .nil ?_
          refine .code ?_
          refine .cond rfl (fun c5 => ?_) (fun c5 => ?_)
          · have c5k := c5
            try simp only [decide_eq_true_eq, decide_eq_false_iff_not, Int.not_lt, Int.not_le, gt_iff_lt, ge_iff_le, Bool.or_eq_true, Bool.and_eq_true, Bool.or_eq_false_iff, Bool.and_eq_false_iff, Bool.not_eq_true', Bool.not_eq_false', Int.toNat_natCast, bne_iff_ne, beq_iff_eq, bne_eq_false_iff_eq, beq_eq_false_iff_ne, ne_eq] at c5
            refine .seq ?_
            refine Wk.rg [0, 1, 2] rfl rfl ?_
            refine bC rfl .no Fx.bp27_ .nil rfl ?_
            refine sw rfl (.u rfl) (.u rfl) rfl Fx.sz27 (.there (.there (.there (.there (.there (.there (.there .here))))))) (by first | exact State.len | exact State.len.trans State.len.symm | exact Edit.len | exact Edit.len.trans Edit.len.symm | exact nine2_len | exact nine2_len.trans State.len.symm | rfl) (State.one') ?_
            refine asg rfl .no (.u rfl) ?_
            refine .nil ?_
            refine .code ?_
            refine .ret ?_
            refine We.fin0 Try.results20 (.cell rfl (fun w hw => run_loadVarN Fx.ag27 (RdN.own .here) ((by first | exact State.len | exact State.len.trans State.len.symm | exact Edit.len | exact Edit.len.trans Edit.len.symm | exact nine2_len | exact nine2_len.trans State.len.symm | rfl)) hw) (.tmp rfl .nil)) ?_
            exact ⟨State.zero, hd0, 180, .inr (.inl ⟨hri, ap_drop (fold_stop eg hL (dropF_high (by omega))), rfl, rfl⟩), rfl, rfl, st_zero⟩
          · have c5k := c5
            try simp only [decide_eq_true_eq, decide_eq_false_iff_not, Int.not_lt, Int.not_le, gt_iff_lt, ge_iff_le, Bool.or_eq_true, Bool.and_eq_true, Bool.or_eq_false_iff, Bool.and_eq_false_iff, Bool.not_eq_true', Bool.not_eq_false', Int.toNat_natCast, bne_iff_ne, beq_iff_eq, bne_eq_false_iff_eq, beq_eq_false_iff_ne, ne_eq] at c5
            refine .skip ?_
            refine .code ?_
            refine .seq ?_
            have hg5 : g.level = 0 ∨ g.level = 1 ∨ g.level = 2 ∨ g.level = 3 ∨ g.level = 4 := by omega
            rcases hg5 with hg5 | hg5 | hg5 | hg5 | hg5
            · refine wk_fz .here (by intro b hb; cases hb) ?_; intro Gfb9 hleb9 hbb9
              have hs := hs.mono hleb9
              have hea := hea.mono hleb9
              have hed := hed.mono hleb9
              refine Wk.rg [0, 1, 2, 3, 4] rfl rfl ?_
              refine fa rfl .no Fx.fo51_0 (.u rfl) ?_
              refine ld rfl .no Fx.ag5 (.u rfl) (fun _ => (hbb9.rd (by rfl)).rd) ?_
              refine fz rfl .no Fx.fo27_0 (.u rfl) ?_
              refine iA rfl .no Fx.ar23 (.u rfl) (.u rfl) (fun _ => by omega) (fun _ => by omega) ?_
              rw [show 0 + g.level.toNat * 1 = 0 from by rw [hg5]; rfl]
              refine asg rfl .no (.u rfl) ?_
              refine .nil ?_
              refine .code ?_
              refine .seq ?_
              have hll := dropL_len hri' hL (i := 0) (by decide)
              refine Wk.rg [0, 1, 2, 3, 4, 5] rfl rfl ?_
              refine mv rfl .no (.u rfl) ?_
              refine nc rfl .no (.u rfl) ?_
              refine ld rfl .no Fx.ag22 (.u rfl) (fun _ => Rd.own (.there (.there (.there (.there (.there .here))))) (by first | exact wap_f rfl | rfl)) ?_
              refine mf (vf := #[]) (vc := [Value.pointer (some ⟨b9, 0, none⟩)].toArray) rfl .no (fun a ha _ => by simp) (fun a ha _ => by simp [(Ev.u (c := true) rfl : Ev _ true (.tmp 9) _).eval ha rfl]) ?_
              refine ka rfl (.inr rfl) Fx.go50 (Eva.cons (.u rfl) (Eva.cons (.u rfl) Eva.nil)) (mtk1 (.there (.there (.there (.there .here))))) (Ct.lendS (Q := fun ν u => ν = [] ∧ u = .int .i64 (idxI (isN g) (L 0))) (fun _ _ => Meta.len _) (fun sh G2 hle hv hsl => by subst hv; exact idx_ok sh (L 0) G2 hsl (by omega) 51 Fx.go51 [.pointer (some ⟨b9, 0, none⟩)] (isN g) (fun G3 h3 m _ => same1_ok m g b9 G3 (hbb9.mono (hle.trans h3))))) ?_
              rintro _ G80 μ80 hG80 ⟨_, rfl, rfl, rfl⟩
              have hs := hs.mono hG80
              have hea := hea.mono hG80
              have hed := hed.mono hG80
              have hbb9 := hbb9.mono hG80
              refine asg rfl .no (.u rfl) ?_
              refine .nil ?_
              refine .code ?_
              refine .seq ?_
              refine .seq ?_
              refine Wk.rg [0, 1] rfl rfl ?_
              refine mv rfl .no (.u rfl) ?_
              refine cp rfl .no (.u rfl) (.u rfl) rfl ?_
              refine .nil ?_
              refine .code ?_
              refine .cond rfl (fun c6 => ?_) (fun c6 => ?_)
              · have c6k := c6
                try simp only [decide_eq_true_eq, decide_eq_false_iff_not, Int.not_lt, Int.not_le, gt_iff_lt, ge_iff_le, Bool.or_eq_true, Bool.and_eq_true, Bool.or_eq_false_iff, Bool.and_eq_false_iff, Bool.not_eq_true', Bool.not_eq_false', Int.toNat_natCast, bne_iff_ne, beq_iff_eq, bne_eq_false_iff_eq, beq_eq_false_iff_ne, ne_eq] at c6
                refine .seq ?_
                refine Wk.rg [0, 1, 2] rfl rfl ?_
                refine bC rfl .no Fx.bp27_ .nil rfl ?_
                refine sw rfl (.u rfl) (.u rfl) rfl Fx.sz27 (.there (.there (.there (.there (.there (.there .here)))))) (by first | exact State.len | exact State.len.trans State.len.symm | exact Edit.len | exact Edit.len.trans Edit.len.symm | exact nine2_len | exact nine2_len.trans State.len.symm | rfl) (State.one') ?_
                refine asg rfl .no (.u rfl) ?_
                refine .nil ?_
                refine .code ?_
                refine .ret ?_
                refine We.fin0 Try.results20 (.cell rfl (fun w hw => run_loadVarN Fx.ag27 (RdN.own .here) ((by first | exact State.len | exact State.len.trans State.len.symm | exact Edit.len | exact Edit.len.trans Edit.len.symm | exact nine2_len | exact nine2_len.trans State.len.symm | rfl)) hw) (.tmp rfl .nil)) ?_
                exact ⟨State.zero, hd0, 180, .inr (.inl ⟨hri, ap_drop (fold_stop eg hL (dropF_miss (q := 0) hg5 (by assumption))), rfl, rfl⟩), rfl, rfl, st_zero⟩
              · have c6k := c6
                try simp only [decide_eq_true_eq, decide_eq_false_iff_not, Int.not_lt, Int.not_le, gt_iff_lt, ge_iff_le, Bool.or_eq_true, Bool.and_eq_true, Bool.or_eq_false_iff, Bool.and_eq_false_iff, Bool.not_eq_true', Bool.not_eq_false', Int.toNat_natCast, bne_iff_ne, beq_iff_eq, bne_eq_false_iff_eq, beq_eq_false_iff_ne, ne_eq] at c6
                refine .skip ?_
                refine .code ?_
                obtain ⟨kk, hk1, hk2⟩ : ∃ kk : Nat, idxI (isN g) (L 0) = (kk : Int) ∧ kk < (L 0).length := ⟨_, (idx_lt (by omega)).2, (idx_lt (by omega)).1⟩
                rw [hk1]
                refine Wk.rg [0, 1, 2, 3, 4, 5, 6, 7, 8, 9] rfl rfl ?_
                refine mv rfl .no (.u rfl) ?_
                refine mv rfl .no (.u rfl) ?_
                refine nc rfl .no (.u rfl) ?_
                refine ld rfl .no Fx.ag22 (.u rfl) (fun _ => Rd.own (.there (.there (.there (.there (.there .here))))) (by first | exact wap_f rfl | rfl)) ?_
                refine mv rfl .no (.u rfl) ?_
                refine mv rfl .no (.u rfl) ?_
                refine arn (((kk + 1) : Nat) : Int) rfl .no (.u rfl) (.u rfl) rfl (fun _ => by omega) (fun _ => wrap_i64 (by omega) (by omega)) ?_
                refine ka rfl (.inr rfl) Fx.go52 (Eva.cons (.u rfl) (Eva.cons (.u rfl) (Eva.cons (.u rfl) Eva.nil))) (mtk1 .here) (del_ok (L 0) w0 kk _ hk2 (by omega)) ?_
                rintro v91 G91 μ91 hG91 rfl
                have hs := hs.mono hG91
                have hea := hea.mono hG91
                have hed := hed.mono hG91
                have hbb9 := hbb9.mono hG91
                refine nc rfl .no (.u rfl) ?_
                refine s1v rfl (.u rfl) (.u rfl) .here Fx.sz22 (.there (.there (.there (.there (.there .here))))) (by show _ < 14; first | decide | omega) (rfl) ?_
                refine .nil ?_
                refine .blk ?_
                refine .code ?_
                refine Wk.rg [0, 1] rfl rfl ?_
                refine arn (((j + 1) : Nat) : Int) rfl .no (.u rfl) (.u rfl) rfl (fun _ => by omega) (fun _ => wrap_i64 (by omega) (by omega)) ?_
                refine mv rfl .no (.u rfl) ?_
                refine .nil ?_
                refine We.lpo (j + 1, v91, w1, w2, w3, w4, updL L 0 ((L 0).take kk ++ (L 0).drop (kk + 1))) ?_ ?_ ?_ ?_ ?_
                · exact (ESub.cons rfl (by first | rfl | exact evi (by omega)) (ESub.cons rfl rfl (ESub.cons rfl rfl (ESub.cons rfl rfl (ESub.cons rfl rfl (ESub.cons rfl rfl ESub.nil))))))
                · exact (MSub.cons (.there (.there .here)) rfl (MSub.cons (.there (.there .here)) rfl (MSub.cons (.there (.there .here)) rfl (MSub.cons (.there (.there .here)) rfl (MSub.cons (.there .here) rfl (MSub.cons .here rfl (MSub.cons .here rfl (MSub.cons .here rfl (MSub.cons .here rfl MSub.nil)))))))))
                · first | omega | (dsimp only; omega)
                · exact (((hGl1).trans hleb9).trans hG80).trans hG91
                · refine ⟨?_, ?_⟩
                  · (try dsimp only) <;> (first | omega | rfl | assumption | (simp; done))
                  · (try dsimp only) <;> (exact fold_step eg hL (dropF_hit hg5 (by decide) hk1))
            · refine wk_fz .here (by intro b hb; cases hb) ?_; intro Gfb9 hleb9 hbb9
              have hs := hs.mono hleb9
              have hea := hea.mono hleb9
              have hed := hed.mono hleb9
              refine Wk.rg [0, 1, 2, 3, 4] rfl rfl ?_
              refine fa rfl .no Fx.fo51_0 (.u rfl) ?_
              refine ld rfl .no Fx.ag5 (.u rfl) (fun _ => (hbb9.rd (by rfl)).rd) ?_
              refine fz rfl .no Fx.fo27_0 (.u rfl) ?_
              refine iA rfl .no Fx.ar23 (.u rfl) (.u rfl) (fun _ => by omega) (fun _ => by omega) ?_
              rw [show 0 + g.level.toNat * 1 = 1 from by rw [hg5]; rfl]
              refine asg rfl .no (.u rfl) ?_
              refine .nil ?_
              refine .code ?_
              refine .seq ?_
              have hll := dropL_len hri' hL (i := 1) (by decide)
              refine Wk.rg [0, 1, 2, 3, 4, 5] rfl rfl ?_
              refine mv rfl .no (.u rfl) ?_
              refine nc rfl .no (.u rfl) ?_
              refine ld rfl .no Fx.ag22 (.u rfl) (fun _ => Rd.own (.there (.there (.there (.there (.there .here))))) (by first | exact wap_f rfl | rfl)) ?_
              refine mf (vf := #[]) (vc := [Value.pointer (some ⟨b9, 0, none⟩)].toArray) rfl .no (fun a ha _ => by simp) (fun a ha _ => by simp [(Ev.u (c := true) rfl : Ev _ true (.tmp 9) _).eval ha rfl]) ?_
              refine ka rfl (.inr rfl) Fx.go50 (Eva.cons (.u rfl) (Eva.cons (.u rfl) Eva.nil)) (mtk1 (.there (.there (.there .here)))) (Ct.lendS (Q := fun ν u => ν = [] ∧ u = .int .i64 (idxI (isN g) (L 1))) (fun _ _ => Meta.len _) (fun sh G2 hle hv hsl => by subst hv; exact idx_ok sh (L 1) G2 hsl (by omega) 51 Fx.go51 [.pointer (some ⟨b9, 0, none⟩)] (isN g) (fun G3 h3 m _ => same1_ok m g b9 G3 (hbb9.mono (hle.trans h3))))) ?_
              rintro _ G80 μ80 hG80 ⟨_, rfl, rfl, rfl⟩
              have hs := hs.mono hG80
              have hea := hea.mono hG80
              have hed := hed.mono hG80
              have hbb9 := hbb9.mono hG80
              refine asg rfl .no (.u rfl) ?_
              refine .nil ?_
              refine .code ?_
              refine .seq ?_
              refine .seq ?_
              refine Wk.rg [0, 1] rfl rfl ?_
              refine mv rfl .no (.u rfl) ?_
              refine cp rfl .no (.u rfl) (.u rfl) rfl ?_
              refine .nil ?_
              refine .code ?_
              refine .cond rfl (fun c7 => ?_) (fun c7 => ?_)
              · have c7k := c7
                try simp only [decide_eq_true_eq, decide_eq_false_iff_not, Int.not_lt, Int.not_le, gt_iff_lt, ge_iff_le, Bool.or_eq_true, Bool.and_eq_true, Bool.or_eq_false_iff, Bool.and_eq_false_iff, Bool.not_eq_true', Bool.not_eq_false', Int.toNat_natCast, bne_iff_ne, beq_iff_eq, bne_eq_false_iff_eq, beq_eq_false_iff_ne, ne_eq] at c7
                refine .seq ?_
                refine Wk.rg [0, 1, 2] rfl rfl ?_
                refine bC rfl .no Fx.bp27_ .nil rfl ?_
                refine sw rfl (.u rfl) (.u rfl) rfl Fx.sz27 (.there (.there (.there (.there (.there (.there .here)))))) (by first | exact State.len | exact State.len.trans State.len.symm | exact Edit.len | exact Edit.len.trans Edit.len.symm | exact nine2_len | exact nine2_len.trans State.len.symm | rfl) (State.one') ?_
                refine asg rfl .no (.u rfl) ?_
                refine .nil ?_
                refine .code ?_
                refine .ret ?_
                refine We.fin0 Try.results20 (.cell rfl (fun w hw => run_loadVarN Fx.ag27 (RdN.own .here) ((by first | exact State.len | exact State.len.trans State.len.symm | exact Edit.len | exact Edit.len.trans Edit.len.symm | exact nine2_len | exact nine2_len.trans State.len.symm | rfl)) hw) (.tmp rfl .nil)) ?_
                exact ⟨State.zero, hd0, 180, .inr (.inl ⟨hri, ap_drop (fold_stop eg hL (dropF_miss (q := 1) hg5 (by assumption))), rfl, rfl⟩), rfl, rfl, st_zero⟩
              · have c7k := c7
                try simp only [decide_eq_true_eq, decide_eq_false_iff_not, Int.not_lt, Int.not_le, gt_iff_lt, ge_iff_le, Bool.or_eq_true, Bool.and_eq_true, Bool.or_eq_false_iff, Bool.and_eq_false_iff, Bool.not_eq_true', Bool.not_eq_false', Int.toNat_natCast, bne_iff_ne, beq_iff_eq, bne_eq_false_iff_eq, beq_eq_false_iff_ne, ne_eq] at c7
                refine .skip ?_
                refine .code ?_
                obtain ⟨kk, hk1, hk2⟩ : ∃ kk : Nat, idxI (isN g) (L 1) = (kk : Int) ∧ kk < (L 1).length := ⟨_, (idx_lt (by omega)).2, (idx_lt (by omega)).1⟩
                rw [hk1]
                refine Wk.rg [0, 1, 2, 3, 4, 5, 6, 7, 8, 9] rfl rfl ?_
                refine mv rfl .no (.u rfl) ?_
                refine mv rfl .no (.u rfl) ?_
                refine nc rfl .no (.u rfl) ?_
                refine ld rfl .no Fx.ag22 (.u rfl) (fun _ => Rd.own (.there (.there (.there (.there (.there .here))))) (by first | exact wap_f rfl | rfl)) ?_
                refine mv rfl .no (.u rfl) ?_
                refine mv rfl .no (.u rfl) ?_
                refine arn (((kk + 1) : Nat) : Int) rfl .no (.u rfl) (.u rfl) rfl (fun _ => by omega) (fun _ => wrap_i64 (by omega) (by omega)) ?_
                refine ka rfl (.inr rfl) Fx.go52 (Eva.cons (.u rfl) (Eva.cons (.u rfl) (Eva.cons (.u rfl) Eva.nil))) (mtk1 .here) (del_ok (L 1) w1 kk _ hk2 (by omega)) ?_
                rintro v91 G91 μ91 hG91 rfl
                have hs := hs.mono hG91
                have hea := hea.mono hG91
                have hed := hed.mono hG91
                have hbb9 := hbb9.mono hG91
                refine nc rfl .no (.u rfl) ?_
                refine s1v rfl (.u rfl) (.u rfl) .here Fx.sz22 (.there (.there (.there (.there (.there .here))))) (by show _ < 14; first | decide | omega) (rfl) ?_
                refine .nil ?_
                refine .blk ?_
                refine .code ?_
                refine Wk.rg [0, 1] rfl rfl ?_
                refine arn (((j + 1) : Nat) : Int) rfl .no (.u rfl) (.u rfl) rfl (fun _ => by omega) (fun _ => wrap_i64 (by omega) (by omega)) ?_
                refine mv rfl .no (.u rfl) ?_
                refine .nil ?_
                refine We.lpo (j + 1, w0, v91, w2, w3, w4, updL L 1 ((L 1).take kk ++ (L 1).drop (kk + 1))) ?_ ?_ ?_ ?_ ?_
                · exact (ESub.cons rfl (by first | rfl | exact evi (by omega)) (ESub.cons rfl rfl (ESub.cons rfl rfl (ESub.cons rfl rfl (ESub.cons rfl rfl (ESub.cons rfl rfl ESub.nil))))))
                · exact (MSub.cons (.there (.there .here)) rfl (MSub.cons (.there (.there .here)) rfl (MSub.cons (.there (.there .here)) rfl (MSub.cons (.there .here) rfl (MSub.cons (.there .here) rfl (MSub.cons .here rfl (MSub.cons .here rfl (MSub.cons .here rfl (MSub.cons .here rfl MSub.nil)))))))))
                · first | omega | (dsimp only; omega)
                · exact (((hGl1).trans hleb9).trans hG80).trans hG91
                · refine ⟨?_, ?_⟩
                  · (try dsimp only) <;> (first | omega | rfl | assumption | (simp; done))
                  · (try dsimp only) <;> (exact fold_step eg hL (dropF_hit hg5 (by decide) hk1))
            · refine wk_fz .here (by intro b hb; cases hb) ?_; intro Gfb9 hleb9 hbb9
              have hs := hs.mono hleb9
              have hea := hea.mono hleb9
              have hed := hed.mono hleb9
              refine Wk.rg [0, 1, 2, 3, 4] rfl rfl ?_
              refine fa rfl .no Fx.fo51_0 (.u rfl) ?_
              refine ld rfl .no Fx.ag5 (.u rfl) (fun _ => (hbb9.rd (by rfl)).rd) ?_
              refine fz rfl .no Fx.fo27_0 (.u rfl) ?_
              refine iA rfl .no Fx.ar23 (.u rfl) (.u rfl) (fun _ => by omega) (fun _ => by omega) ?_
              rw [show 0 + g.level.toNat * 1 = 2 from by rw [hg5]; rfl]
              refine asg rfl .no (.u rfl) ?_
              refine .nil ?_
              refine .code ?_
              refine .seq ?_
              have hll := dropL_len hri' hL (i := 2) (by decide)
              refine Wk.rg [0, 1, 2, 3, 4, 5] rfl rfl ?_
              refine mv rfl .no (.u rfl) ?_
              refine nc rfl .no (.u rfl) ?_
              refine ld rfl .no Fx.ag22 (.u rfl) (fun _ => Rd.own (.there (.there (.there (.there (.there .here))))) (by first | exact wap_f rfl | rfl)) ?_
              refine mf (vf := #[]) (vc := [Value.pointer (some ⟨b9, 0, none⟩)].toArray) rfl .no (fun a ha _ => by simp) (fun a ha _ => by simp [(Ev.u (c := true) rfl : Ev _ true (.tmp 9) _).eval ha rfl]) ?_
              refine ka rfl (.inr rfl) Fx.go50 (Eva.cons (.u rfl) (Eva.cons (.u rfl) Eva.nil)) (mtk1 (.there (.there .here))) (Ct.lendS (Q := fun ν u => ν = [] ∧ u = .int .i64 (idxI (isN g) (L 2))) (fun _ _ => Meta.len _) (fun sh G2 hle hv hsl => by subst hv; exact idx_ok sh (L 2) G2 hsl (by omega) 51 Fx.go51 [.pointer (some ⟨b9, 0, none⟩)] (isN g) (fun G3 h3 m _ => same1_ok m g b9 G3 (hbb9.mono (hle.trans h3))))) ?_
              rintro _ G80 μ80 hG80 ⟨_, rfl, rfl, rfl⟩
              have hs := hs.mono hG80
              have hea := hea.mono hG80
              have hed := hed.mono hG80
              have hbb9 := hbb9.mono hG80
              refine asg rfl .no (.u rfl) ?_
              refine .nil ?_
              refine .code ?_
              refine .seq ?_
              refine .seq ?_
              refine Wk.rg [0, 1] rfl rfl ?_
              refine mv rfl .no (.u rfl) ?_
              refine cp rfl .no (.u rfl) (.u rfl) rfl ?_
              refine .nil ?_
              refine .code ?_
              refine .cond rfl (fun c8 => ?_) (fun c8 => ?_)
              · have c8k := c8
                try simp only [decide_eq_true_eq, decide_eq_false_iff_not, Int.not_lt, Int.not_le, gt_iff_lt, ge_iff_le, Bool.or_eq_true, Bool.and_eq_true, Bool.or_eq_false_iff, Bool.and_eq_false_iff, Bool.not_eq_true', Bool.not_eq_false', Int.toNat_natCast, bne_iff_ne, beq_iff_eq, bne_eq_false_iff_eq, beq_eq_false_iff_ne, ne_eq] at c8
                refine .seq ?_
                refine Wk.rg [0, 1, 2] rfl rfl ?_
                refine bC rfl .no Fx.bp27_ .nil rfl ?_
                refine sw rfl (.u rfl) (.u rfl) rfl Fx.sz27 (.there (.there (.there (.there (.there (.there .here)))))) (by first | exact State.len | exact State.len.trans State.len.symm | exact Edit.len | exact Edit.len.trans Edit.len.symm | exact nine2_len | exact nine2_len.trans State.len.symm | rfl) (State.one') ?_
                refine asg rfl .no (.u rfl) ?_
                refine .nil ?_
                refine .code ?_
                refine .ret ?_
                refine We.fin0 Try.results20 (.cell rfl (fun w hw => run_loadVarN Fx.ag27 (RdN.own .here) ((by first | exact State.len | exact State.len.trans State.len.symm | exact Edit.len | exact Edit.len.trans Edit.len.symm | exact nine2_len | exact nine2_len.trans State.len.symm | rfl)) hw) (.tmp rfl .nil)) ?_
                exact ⟨State.zero, hd0, 180, .inr (.inl ⟨hri, ap_drop (fold_stop eg hL (dropF_miss (q := 2) hg5 (by assumption))), rfl, rfl⟩), rfl, rfl, st_zero⟩
              · have c8k := c8
                try simp only [decide_eq_true_eq, decide_eq_false_iff_not, Int.not_lt, Int.not_le, gt_iff_lt, ge_iff_le, Bool.or_eq_true, Bool.and_eq_true, Bool.or_eq_false_iff, Bool.and_eq_false_iff, Bool.not_eq_true', Bool.not_eq_false', Int.toNat_natCast, bne_iff_ne, beq_iff_eq, bne_eq_false_iff_eq, beq_eq_false_iff_ne, ne_eq] at c8
                refine .skip ?_
                refine .code ?_
                obtain ⟨kk, hk1, hk2⟩ : ∃ kk : Nat, idxI (isN g) (L 2) = (kk : Int) ∧ kk < (L 2).length := ⟨_, (idx_lt (by omega)).2, (idx_lt (by omega)).1⟩
                rw [hk1]
                refine Wk.rg [0, 1, 2, 3, 4, 5, 6, 7, 8, 9] rfl rfl ?_
                refine mv rfl .no (.u rfl) ?_
                refine mv rfl .no (.u rfl) ?_
                refine nc rfl .no (.u rfl) ?_
                refine ld rfl .no Fx.ag22 (.u rfl) (fun _ => Rd.own (.there (.there (.there (.there (.there .here))))) (by first | exact wap_f rfl | rfl)) ?_
                refine mv rfl .no (.u rfl) ?_
                refine mv rfl .no (.u rfl) ?_
                refine arn (((kk + 1) : Nat) : Int) rfl .no (.u rfl) (.u rfl) rfl (fun _ => by omega) (fun _ => wrap_i64 (by omega) (by omega)) ?_
                refine ka rfl (.inr rfl) Fx.go52 (Eva.cons (.u rfl) (Eva.cons (.u rfl) (Eva.cons (.u rfl) Eva.nil))) (mtk1 .here) (del_ok (L 2) w2 kk _ hk2 (by omega)) ?_
                rintro v91 G91 μ91 hG91 rfl
                have hs := hs.mono hG91
                have hea := hea.mono hG91
                have hed := hed.mono hG91
                have hbb9 := hbb9.mono hG91
                refine nc rfl .no (.u rfl) ?_
                refine s1v rfl (.u rfl) (.u rfl) .here Fx.sz22 (.there (.there (.there (.there (.there .here))))) (by show _ < 14; first | decide | omega) (rfl) ?_
                refine .nil ?_
                refine .blk ?_
                refine .code ?_
                refine Wk.rg [0, 1] rfl rfl ?_
                refine arn (((j + 1) : Nat) : Int) rfl .no (.u rfl) (.u rfl) rfl (fun _ => by omega) (fun _ => wrap_i64 (by omega) (by omega)) ?_
                refine mv rfl .no (.u rfl) ?_
                refine .nil ?_
                refine We.lpo (j + 1, w0, w1, v91, w3, w4, updL L 2 ((L 2).take kk ++ (L 2).drop (kk + 1))) ?_ ?_ ?_ ?_ ?_
                · exact (ESub.cons rfl (by first | rfl | exact evi (by omega)) (ESub.cons rfl rfl (ESub.cons rfl rfl (ESub.cons rfl rfl (ESub.cons rfl rfl (ESub.cons rfl rfl ESub.nil))))))
                · exact (MSub.cons (.there (.there .here)) rfl (MSub.cons (.there (.there .here)) rfl (MSub.cons (.there .here) rfl (MSub.cons (.there .here) rfl (MSub.cons (.there .here) rfl (MSub.cons .here rfl (MSub.cons .here rfl (MSub.cons .here rfl (MSub.cons .here rfl MSub.nil)))))))))
                · first | omega | (dsimp only; omega)
                · exact (((hGl1).trans hleb9).trans hG80).trans hG91
                · refine ⟨?_, ?_⟩
                  · (try dsimp only) <;> (first | omega | rfl | assumption | (simp; done))
                  · (try dsimp only) <;> (exact fold_step eg hL (dropF_hit hg5 (by decide) hk1))
            · refine wk_fz .here (by intro b hb; cases hb) ?_; intro Gfb9 hleb9 hbb9
              have hs := hs.mono hleb9
              have hea := hea.mono hleb9
              have hed := hed.mono hleb9
              refine Wk.rg [0, 1, 2, 3, 4] rfl rfl ?_
              refine fa rfl .no Fx.fo51_0 (.u rfl) ?_
              refine ld rfl .no Fx.ag5 (.u rfl) (fun _ => (hbb9.rd (by rfl)).rd) ?_
              refine fz rfl .no Fx.fo27_0 (.u rfl) ?_
              refine iA rfl .no Fx.ar23 (.u rfl) (.u rfl) (fun _ => by omega) (fun _ => by omega) ?_
              rw [show 0 + g.level.toNat * 1 = 3 from by rw [hg5]; rfl]
              refine asg rfl .no (.u rfl) ?_
              refine .nil ?_
              refine .code ?_
              refine .seq ?_
              have hll := dropL_len hri' hL (i := 3) (by decide)
              refine Wk.rg [0, 1, 2, 3, 4, 5] rfl rfl ?_
              refine mv rfl .no (.u rfl) ?_
              refine nc rfl .no (.u rfl) ?_
              refine ld rfl .no Fx.ag22 (.u rfl) (fun _ => Rd.own (.there (.there (.there (.there (.there .here))))) (by first | exact wap_f rfl | rfl)) ?_
              refine mf (vf := #[]) (vc := [Value.pointer (some ⟨b9, 0, none⟩)].toArray) rfl .no (fun a ha _ => by simp) (fun a ha _ => by simp [(Ev.u (c := true) rfl : Ev _ true (.tmp 9) _).eval ha rfl]) ?_
              refine ka rfl (.inr rfl) Fx.go50 (Eva.cons (.u rfl) (Eva.cons (.u rfl) Eva.nil)) (mtk1 (.there .here)) (Ct.lendS (Q := fun ν u => ν = [] ∧ u = .int .i64 (idxI (isN g) (L 3))) (fun _ _ => Meta.len _) (fun sh G2 hle hv hsl => by subst hv; exact idx_ok sh (L 3) G2 hsl (by omega) 51 Fx.go51 [.pointer (some ⟨b9, 0, none⟩)] (isN g) (fun G3 h3 m _ => same1_ok m g b9 G3 (hbb9.mono (hle.trans h3))))) ?_
              rintro _ G80 μ80 hG80 ⟨_, rfl, rfl, rfl⟩
              have hs := hs.mono hG80
              have hea := hea.mono hG80
              have hed := hed.mono hG80
              have hbb9 := hbb9.mono hG80
              refine asg rfl .no (.u rfl) ?_
              refine .nil ?_
              refine .code ?_
              refine .seq ?_
              refine .seq ?_
              refine Wk.rg [0, 1] rfl rfl ?_
              refine mv rfl .no (.u rfl) ?_
              refine cp rfl .no (.u rfl) (.u rfl) rfl ?_
              refine .nil ?_
              refine .code ?_
              refine .cond rfl (fun c9 => ?_) (fun c9 => ?_)
              · have c9k := c9
                try simp only [decide_eq_true_eq, decide_eq_false_iff_not, Int.not_lt, Int.not_le, gt_iff_lt, ge_iff_le, Bool.or_eq_true, Bool.and_eq_true, Bool.or_eq_false_iff, Bool.and_eq_false_iff, Bool.not_eq_true', Bool.not_eq_false', Int.toNat_natCast, bne_iff_ne, beq_iff_eq, bne_eq_false_iff_eq, beq_eq_false_iff_ne, ne_eq] at c9
                refine .seq ?_
                refine Wk.rg [0, 1, 2] rfl rfl ?_
                refine bC rfl .no Fx.bp27_ .nil rfl ?_
                refine sw rfl (.u rfl) (.u rfl) rfl Fx.sz27 (.there (.there (.there (.there (.there (.there .here)))))) (by first | exact State.len | exact State.len.trans State.len.symm | exact Edit.len | exact Edit.len.trans Edit.len.symm | exact nine2_len | exact nine2_len.trans State.len.symm | rfl) (State.one') ?_
                refine asg rfl .no (.u rfl) ?_
                refine .nil ?_
                refine .code ?_
                refine .ret ?_
                refine We.fin0 Try.results20 (.cell rfl (fun w hw => run_loadVarN Fx.ag27 (RdN.own .here) ((by first | exact State.len | exact State.len.trans State.len.symm | exact Edit.len | exact Edit.len.trans Edit.len.symm | exact nine2_len | exact nine2_len.trans State.len.symm | rfl)) hw) (.tmp rfl .nil)) ?_
                exact ⟨State.zero, hd0, 180, .inr (.inl ⟨hri, ap_drop (fold_stop eg hL (dropF_miss (q := 3) hg5 (by assumption))), rfl, rfl⟩), rfl, rfl, st_zero⟩
              · have c9k := c9
                try simp only [decide_eq_true_eq, decide_eq_false_iff_not, Int.not_lt, Int.not_le, gt_iff_lt, ge_iff_le, Bool.or_eq_true, Bool.and_eq_true, Bool.or_eq_false_iff, Bool.and_eq_false_iff, Bool.not_eq_true', Bool.not_eq_false', Int.toNat_natCast, bne_iff_ne, beq_iff_eq, bne_eq_false_iff_eq, beq_eq_false_iff_ne, ne_eq] at c9
                refine .skip ?_
                refine .code ?_
                obtain ⟨kk, hk1, hk2⟩ : ∃ kk : Nat, idxI (isN g) (L 3) = (kk : Int) ∧ kk < (L 3).length := ⟨_, (idx_lt (by omega)).2, (idx_lt (by omega)).1⟩
                rw [hk1]
                refine Wk.rg [0, 1, 2, 3, 4, 5, 6, 7, 8, 9] rfl rfl ?_
                refine mv rfl .no (.u rfl) ?_
                refine mv rfl .no (.u rfl) ?_
                refine nc rfl .no (.u rfl) ?_
                refine ld rfl .no Fx.ag22 (.u rfl) (fun _ => Rd.own (.there (.there (.there (.there (.there .here))))) (by first | exact wap_f rfl | rfl)) ?_
                refine mv rfl .no (.u rfl) ?_
                refine mv rfl .no (.u rfl) ?_
                refine arn (((kk + 1) : Nat) : Int) rfl .no (.u rfl) (.u rfl) rfl (fun _ => by omega) (fun _ => wrap_i64 (by omega) (by omega)) ?_
                refine ka rfl (.inr rfl) Fx.go52 (Eva.cons (.u rfl) (Eva.cons (.u rfl) (Eva.cons (.u rfl) Eva.nil))) (mtk1 .here) (del_ok (L 3) w3 kk _ hk2 (by omega)) ?_
                rintro v91 G91 μ91 hG91 rfl
                have hs := hs.mono hG91
                have hea := hea.mono hG91
                have hed := hed.mono hG91
                have hbb9 := hbb9.mono hG91
                refine nc rfl .no (.u rfl) ?_
                refine s1v rfl (.u rfl) (.u rfl) .here Fx.sz22 (.there (.there (.there (.there (.there .here))))) (by show _ < 14; first | decide | omega) (rfl) ?_
                refine .nil ?_
                refine .blk ?_
                refine .code ?_
                refine Wk.rg [0, 1] rfl rfl ?_
                refine arn (((j + 1) : Nat) : Int) rfl .no (.u rfl) (.u rfl) rfl (fun _ => by omega) (fun _ => wrap_i64 (by omega) (by omega)) ?_
                refine mv rfl .no (.u rfl) ?_
                refine .nil ?_
                refine We.lpo (j + 1, w0, w1, w2, v91, w4, updL L 3 ((L 3).take kk ++ (L 3).drop (kk + 1))) ?_ ?_ ?_ ?_ ?_
                · exact (ESub.cons rfl (by first | rfl | exact evi (by omega)) (ESub.cons rfl rfl (ESub.cons rfl rfl (ESub.cons rfl rfl (ESub.cons rfl rfl (ESub.cons rfl rfl ESub.nil))))))
                · exact (MSub.cons (.there (.there .here)) rfl (MSub.cons (.there .here) rfl (MSub.cons (.there .here) rfl (MSub.cons (.there .here) rfl (MSub.cons (.there .here) rfl (MSub.cons .here rfl (MSub.cons .here rfl (MSub.cons .here rfl (MSub.cons .here rfl MSub.nil)))))))))
                · first | omega | (dsimp only; omega)
                · exact (((hGl1).trans hleb9).trans hG80).trans hG91
                · refine ⟨?_, ?_⟩
                  · (try dsimp only) <;> (first | omega | rfl | assumption | (simp; done))
                  · (try dsimp only) <;> (exact fold_step eg hL (dropF_hit hg5 (by decide) hk1))
            · refine wk_fz .here (by intro b hb; cases hb) ?_; intro Gfb9 hleb9 hbb9
              have hs := hs.mono hleb9
              have hea := hea.mono hleb9
              have hed := hed.mono hleb9
              refine Wk.rg [0, 1, 2, 3, 4] rfl rfl ?_
              refine fa rfl .no Fx.fo51_0 (.u rfl) ?_
              refine ld rfl .no Fx.ag5 (.u rfl) (fun _ => (hbb9.rd (by rfl)).rd) ?_
              refine fz rfl .no Fx.fo27_0 (.u rfl) ?_
              refine iA rfl .no Fx.ar23 (.u rfl) (.u rfl) (fun _ => by omega) (fun _ => by omega) ?_
              rw [show 0 + g.level.toNat * 1 = 4 from by rw [hg5]; rfl]
              refine asg rfl .no (.u rfl) ?_
              refine .nil ?_
              refine .code ?_
              refine .seq ?_
              have hll := dropL_len hri' hL (i := 4) (by decide)
              refine Wk.rg [0, 1, 2, 3, 4, 5] rfl rfl ?_
              refine mv rfl .no (.u rfl) ?_
              refine nc rfl .no (.u rfl) ?_
              refine ld rfl .no Fx.ag22 (.u rfl) (fun _ => Rd.own (.there (.there (.there (.there (.there .here))))) (by first | exact wap_f rfl | rfl)) ?_
              refine mf (vf := #[]) (vc := [Value.pointer (some ⟨b9, 0, none⟩)].toArray) rfl .no (fun a ha _ => by simp) (fun a ha _ => by simp [(Ev.u (c := true) rfl : Ev _ true (.tmp 9) _).eval ha rfl]) ?_
              refine ka rfl (.inr rfl) Fx.go50 (Eva.cons (.u rfl) (Eva.cons (.u rfl) Eva.nil)) (mtk1 .here) (Ct.lendS (Q := fun ν u => ν = [] ∧ u = .int .i64 (idxI (isN g) (L 4))) (fun _ _ => Meta.len _) (fun sh G2 hle hv hsl => by subst hv; exact idx_ok sh (L 4) G2 hsl (by omega) 51 Fx.go51 [.pointer (some ⟨b9, 0, none⟩)] (isN g) (fun G3 h3 m _ => same1_ok m g b9 G3 (hbb9.mono (hle.trans h3))))) ?_
              rintro _ G80 μ80 hG80 ⟨_, rfl, rfl, rfl⟩
              have hs := hs.mono hG80
              have hea := hea.mono hG80
              have hed := hed.mono hG80
              have hbb9 := hbb9.mono hG80
              refine asg rfl .no (.u rfl) ?_
              refine .nil ?_
              refine .code ?_
              refine .seq ?_
              refine .seq ?_
              refine Wk.rg [0, 1] rfl rfl ?_
              refine mv rfl .no (.u rfl) ?_
              refine cp rfl .no (.u rfl) (.u rfl) rfl ?_
              refine .nil ?_
              refine .code ?_
              refine .cond rfl (fun c10 => ?_) (fun c10 => ?_)
              · have c10k := c10
                try simp only [decide_eq_true_eq, decide_eq_false_iff_not, Int.not_lt, Int.not_le, gt_iff_lt, ge_iff_le, Bool.or_eq_true, Bool.and_eq_true, Bool.or_eq_false_iff, Bool.and_eq_false_iff, Bool.not_eq_true', Bool.not_eq_false', Int.toNat_natCast, bne_iff_ne, beq_iff_eq, bne_eq_false_iff_eq, beq_eq_false_iff_ne, ne_eq] at c10
                refine .seq ?_
                refine Wk.rg [0, 1, 2] rfl rfl ?_
                refine bC rfl .no Fx.bp27_ .nil rfl ?_
                refine sw rfl (.u rfl) (.u rfl) rfl Fx.sz27 (.there (.there (.there (.there (.there (.there .here)))))) (by first | exact State.len | exact State.len.trans State.len.symm | exact Edit.len | exact Edit.len.trans Edit.len.symm | exact nine2_len | exact nine2_len.trans State.len.symm | rfl) (State.one') ?_
                refine asg rfl .no (.u rfl) ?_
                refine .nil ?_
                refine .code ?_
                refine .ret ?_
                refine We.fin0 Try.results20 (.cell rfl (fun w hw => run_loadVarN Fx.ag27 (RdN.own .here) ((by first | exact State.len | exact State.len.trans State.len.symm | exact Edit.len | exact Edit.len.trans Edit.len.symm | exact nine2_len | exact nine2_len.trans State.len.symm | rfl)) hw) (.tmp rfl .nil)) ?_
                exact ⟨State.zero, hd0, 180, .inr (.inl ⟨hri, ap_drop (fold_stop eg hL (dropF_miss (q := 4) hg5 (by assumption))), rfl, rfl⟩), rfl, rfl, st_zero⟩
              · have c10k := c10
                try simp only [decide_eq_true_eq, decide_eq_false_iff_not, Int.not_lt, Int.not_le, gt_iff_lt, ge_iff_le, Bool.or_eq_true, Bool.and_eq_true, Bool.or_eq_false_iff, Bool.and_eq_false_iff, Bool.not_eq_true', Bool.not_eq_false', Int.toNat_natCast, bne_iff_ne, beq_iff_eq, bne_eq_false_iff_eq, beq_eq_false_iff_ne, ne_eq] at c10
                refine .skip ?_
                refine .code ?_
                obtain ⟨kk, hk1, hk2⟩ : ∃ kk : Nat, idxI (isN g) (L 4) = (kk : Int) ∧ kk < (L 4).length := ⟨_, (idx_lt (by omega)).2, (idx_lt (by omega)).1⟩
                rw [hk1]
                refine Wk.rg [0, 1, 2, 3, 4, 5, 6, 7, 8, 9] rfl rfl ?_
                refine mv rfl .no (.u rfl) ?_
                refine mv rfl .no (.u rfl) ?_
                refine nc rfl .no (.u rfl) ?_
                refine ld rfl .no Fx.ag22 (.u rfl) (fun _ => Rd.own (.there (.there (.there (.there (.there .here))))) (by first | exact wap_f rfl | rfl)) ?_
                refine mv rfl .no (.u rfl) ?_
                refine mv rfl .no (.u rfl) ?_
                refine arn (((kk + 1) : Nat) : Int) rfl .no (.u rfl) (.u rfl) rfl (fun _ => by omega) (fun _ => wrap_i64 (by omega) (by omega)) ?_
                refine ka rfl (.inr rfl) Fx.go52 (Eva.cons (.u rfl) (Eva.cons (.u rfl) (Eva.cons (.u rfl) Eva.nil))) (mtk1 .here) (del_ok (L 4) w4 kk _ hk2 (by omega)) ?_
                rintro v91 G91 μ91 hG91 rfl
                have hs := hs.mono hG91
                have hea := hea.mono hG91
                have hed := hed.mono hG91
                have hbb9 := hbb9.mono hG91
                refine nc rfl .no (.u rfl) ?_
                refine s1v rfl (.u rfl) (.u rfl) .here Fx.sz22 (.there (.there (.there (.there (.there .here))))) (by show _ < 14; first | decide | omega) (rfl) ?_
                refine .nil ?_
                refine .blk ?_
                refine .code ?_
                refine Wk.rg [0, 1] rfl rfl ?_
                refine arn (((j + 1) : Nat) : Int) rfl .no (.u rfl) (.u rfl) rfl (fun _ => by omega) (fun _ => wrap_i64 (by omega) (by omega)) ?_
                refine mv rfl .no (.u rfl) ?_
                refine .nil ?_
                refine We.lpo (j + 1, w0, w1, w2, w3, v91, updL L 4 ((L 4).take kk ++ (L 4).drop (kk + 1))) ?_ ?_ ?_ ?_ ?_
                · exact (ESub.cons rfl (by first | rfl | exact evi (by omega)) (ESub.cons rfl rfl (ESub.cons rfl rfl (ESub.cons rfl rfl (ESub.cons rfl rfl (ESub.cons rfl rfl ESub.nil))))))
                · exact (MSub.cons (.there .here) rfl (MSub.cons (.there .here) rfl (MSub.cons (.there .here) rfl (MSub.cons (.there .here) rfl (MSub.cons (.there .here) rfl (MSub.cons .here rfl (MSub.cons .here rfl (MSub.cons .here rfl (MSub.cons .here rfl MSub.nil)))))))))
                · first | omega | (dsimp only; omega)
                · exact (((hGl1).trans hleb9).trans hG80).trans hG91
                · refine ⟨?_, ?_⟩
                  · (try dsimp only) <;> (first | omega | rfl | assumption | (simp; done))
                  · (try dsimp only) <;> (exact fold_step eg hL (dropF_hit hg5 (by decide) hk1))
        · have c4k := c4
          try simp only [decide_eq_true_eq, decide_eq_false_iff_not, Int.not_lt, Int.not_le, gt_iff_lt, ge_iff_le, Bool.or_eq_true, Bool.and_eq_true, Bool.or_eq_false_iff, Bool.and_eq_false_iff, Bool.not_eq_true', Bool.not_eq_false', Int.toNat_natCast, bne_iff_ne, beq_iff_eq, bne_eq_false_iff_eq, beq_eq_false_iff_ne, ne_eq] at c4
          refine .exit ?_
          refine .xcode ?_
          refine .xlp ?_
          refine .xblk ?_
          refine .code ?_
          refine .seq ?_
          refine .seq ?_
          refine Wk.rg [0, 1, 2, 3] rfl rfl ?_
          refine fz rfl .no Fx.fo32_5 (.u rfl) ?_
          refine ld rfl .no Fx.ag22 (.u rfl) (fun _ => Rd.own (.there (.there (.there (.there (.there (.there (.there .here))))))) (by first | exact wap_f rfl | rfl)) ?_
          refine ln rfl .no Fx.sn22 (.u rfl) ?_
          refine mv rfl .no (.u rfl) ?_
          refine .nil ?_
          refine .code ?_
          refine .block ?_
          obtain rfl : j = e.drop.length := by omega
          rw [List.take_length] at hL
          refine Wk.lop (α := Nat × Value × Value × Value × Value × Value × Lvs) (fun gh => [(97, true, .int .i64 (gh.1 : Int))]) (fun gh => [rS 40 Meta.cells gh.2.2.2.2.2.1 48 (gh.2.2.2.2.2.2 4), rS 40 Meta.cells gh.2.2.2.2.1 48 (gh.2.2.2.2.2.2 3), rS 40 Meta.cells gh.2.2.2.1 48 (gh.2.2.2.2.2.2 2), rS 40 Meta.cells gh.2.2.1 48 (gh.2.2.2.2.2.2 1), rS 40 Meta.cells gh.2.1 48 (gh.2.2.2.2.2.2 0), .blk b6 (cl (xC gh.2.1 gh.2.2.1 gh.2.2.2.1 gh.2.2.2.2.1 gh.2.2.2.2.2.1 e) 27)])
            (fun gh Gl => (gh.1 ≤ e.add.length) ∧ (foldO addF (e.add.take gh.1) L = some gh.2.2.2.2.2.2)) (fun gh => e.add.length - gh.1) (0, w0, w1, w2, w3, w4, L) [(4, true, _), (6, true, _), (95, true, _), (96, true, _)] [_, _, _]
            (ESub.cons rfl (by first | rfl | exact evi (by omega)) (ESub.cons rfl rfl (ESub.cons rfl rfl (ESub.cons rfl rfl (ESub.cons rfl rfl ESub.nil)))))
            (MSub.cons .here rfl (MSub.cons .here rfl (MSub.cons .here rfl (MSub.cons .here rfl (MSub.cons .here rfl (MSub.cons .here rfl (MSub.cons .here rfl (MSub.cons .here rfl (MSub.cons .here rfl MSub.nil))))))))) ?_ ?_
          · refine ⟨?_, ?_⟩
            · (try dsimp only) <;> (first | omega | rfl | assumption | (simp; done))
            · (try dsimp only) <;> (rfl)
          intro gh N2 Gl2 hN2 hGl2 hF2
          obtain ⟨j, w0, w1, w2, w3, w4, L2⟩ := gh; dsimp only at hF2 hN2 ⊢
          obtain ⟨hj, hA⟩ := hF2
          have hs := hs.mono hGl2
          have hea := hea.mono hGl2
          have hed := hed.mono hGl2
          refine .seq ?_
          refine Wk.rg [0] rfl rfl ?_
          refine cp rfl .no (.u rfl) (.u rfl) rfl ?_
          refine .nil ?_
          refine .code ?_
          refine .seq ?_
          refine .cond rfl (fun c11 => ?_) (fun c11 => ?_)
          · have c11k := c11
            try simp only [decide_eq_true_eq, decide_eq_false_iff_not, Int.not_lt, Int.not_le, gt_iff_lt, ge_iff_le, Bool.or_eq_true, Bool.and_eq_true, Bool.or_eq_false_iff, Bool.and_eq_false_iff, Bool.not_eq_true', Bool.not_eq_false', Int.toNat_natCast, bne_iff_ne, beq_iff_eq, bne_eq_false_iff_eq, beq_eq_false_iff_ne, ne_eq] at c11
            refine .skip ?_
            refine .code ?_
            refine .seq ?_
            refine .block ?_
            refine .seq ?_
            refine Wk.rg [0, 1, 2, 3] rfl rfl ?_
            obtain ⟨m, em⟩ := getx (k := j) (xs := e.add) (by omega)
            have hwm := (hE.wf.add m (List.mem_of_getElem? em)).level
            refine ih rfl .no Fx.se22 (.u rfl) (.u rfl) (fun _ => by omega) (fun _ => by omega) (fun _ => hea.nn (k := j) (by first | omega | (simp only [Bool.and_eq_true, decide_eq_true_eq] at hc; omega) | (simp only [List.length_cons, List.length_nil]; omega))) ?_
            refine lA rfl .no Fx.ag48 (.u rfl) (fun _ => (hea.at (by omega) em).rd) (fun _ => Meta.len _) ?_
            refine al rfl Fx.zr48 ?_; intro b13
            refine sw rfl (.u rfl) (.u rfl) rfl Fx.sz48 .here rfl (Meta.one _) ?_
            refine .nil ?_
            refine .code ?_
            refine .seq ?_
            refine .seq ?_
            refine Wk.rg [0, 1, 2] rfl rfl ?_
            refine fz rfl .no Fx.fo48_0 (.u rfl) ?_
            refine ld rfl .no Fx.ag5 (.u rfl) (fun _ => Rd.own .here (by first | exact wap_f rfl | rfl)) ?_
            refine cp rfl .no (.u rfl) (.u rfl) rfl ?_
            refine .nil ?_
            refine .code ?_
            refine .cond rfl (fun c12 => ?_) (fun c12 => ?_)
            · have c12k := c12
              try simp only [decide_eq_true_eq, decide_eq_false_iff_not, Int.not_lt, Int.not_le, gt_iff_lt, ge_iff_le, Bool.or_eq_true, Bool.and_eq_true, Bool.or_eq_false_iff, Bool.and_eq_false_iff, Bool.not_eq_true', Bool.not_eq_false', Int.toNat_natCast, bne_iff_ne, beq_iff_eq, bne_eq_false_iff_eq, beq_eq_false_iff_ne, ne_eq] at c12
              refine .seq ?_
              refine Wk.rg [0, 1, 2] rfl rfl ?_
              refine bC rfl .no Fx.bp27_ .nil rfl ?_
              refine sw rfl (.u rfl) (.u rfl) rfl Fx.sz27 (.there (.there (.there (.there (.there (.there (.there .here))))))) (by first | exact State.len | exact State.len.trans State.len.symm | exact Edit.len | exact Edit.len.trans Edit.len.symm | exact nine2_len | exact nine2_len.trans State.len.symm | rfl) (State.one') ?_
              refine asg rfl .no (.u rfl) ?_
              refine .nil ?_
              refine .code ?_
              refine .ret ?_
              refine We.fin0 Try.results20 (.cell rfl (fun w hw => run_loadVarN Fx.ag27 (RdN.own .here) ((by first | exact State.len | exact State.len.trans State.len.symm | exact Edit.len | exact Edit.len.trans Edit.len.symm | exact nine2_len | exact nine2_len.trans State.len.symm | rfl)) hw) (.tmp rfl .nil)) ?_
              exact ⟨State.zero, hd0, 180, .inr (.inl ⟨hri, ap_add hL (fold_stop em hA (addF_high (by omega))), rfl, rfl⟩), rfl, rfl, st_zero⟩
            · have c12k := c12
              try simp only [decide_eq_true_eq, decide_eq_false_iff_not, Int.not_lt, Int.not_le, gt_iff_lt, ge_iff_le, Bool.or_eq_true, Bool.and_eq_true, Bool.or_eq_false_iff, Bool.and_eq_false_iff, Bool.not_eq_true', Bool.not_eq_false', Int.toNat_natCast, bne_iff_ne, beq_iff_eq, bne_eq_false_iff_eq, beq_eq_false_iff_ne, ne_eq] at c12
              refine .skip ?_
              refine .code ?_
              have hm5 : m.level = 0 ∨ m.level = 1 ∨ m.level = 2 ∨ m.level = 3 ∨ m.level = 4 := by omega
              rcases hm5 with hm5 | hm5 | hm5 | hm5 | hm5
              · refine Wk.mix ⟨false, false⟩ Fx.mix (by kernel_rfl) ?_
                have hll := addL_len (N := 1024) hA (i := 0) (dropL_len hri' hL (by decide))
                have htk := List.length_take_le j e.add
                refine Wt.one 0 (by kernel_rfl) ?_
                refine fz rfl .no Fx.fo48_0 (.u rfl) ?_
                refine .nil ?_
                refine Wt.one 2 (by kernel_rfl) ?_
                refine fz rfl .no Fx.fo48_0 (.u rfl) ?_
                refine .nil ?_
                refine Wt.one 3 (by kernel_rfl) ?_
                refine ld rfl .no Fx.ag5 (.u rfl) (fun _ => Rd.own .here (by first | exact wap_f rfl | rfl)) ?_
                refine .nil ?_
                refine Wt.one 4 (by kernel_rfl) ?_
                refine fz rfl .no Fx.fo27_0 (.u rfl) ?_
                refine .nil ?_
                refine Wt.one 5 (by kernel_rfl) ?_
                refine iA rfl .no Fx.ar23 (.u rfl) (.u rfl) (fun _ => by omega) (fun _ => by omega) ?_
                rw [show 0 + m.level.toNat * 1 = 0 from by rw [hm5]; rfl]
                refine .nil ?_
                refine Wt.one 6 (by kernel_rfl) ?_
                refine ld rfl .no Fx.ag22 (.u rfl) (fun _ => Rd.own (.there (.there (.there (.there (.there (.there .here)))))) (by first | exact wap_f rfl | rfl)) ?_
                refine .nil ?_
                refine Wt.one 7 (by kernel_rfl) ?_
                refine lA rfl .no Fx.ag48 (.u rfl) (fun _ => RdN.own .here) (fun _ => Meta.len _) ?_
                refine .nil ?_
                refine Wt.one 10 (by kernel_rfl) ?_
                refine fz rfl .no Fx.fo27_0 (.u rfl) ?_
                refine .nil ?_
                refine Wt.b2 1 8 (by kernel_rfl) ?_ ?_
                · refine ld rfl .no Fx.ag5 (.u rfl) (fun _ => Rd.own .here (by first | exact wap_f rfl | rfl)) ?_
                  refine .nil ?_
                  refine Wt.b1 8 (by kernel_rfl) ?_
                  refine Go.Tan.b1 rfl Fx.se22 Fx.zv48 (.u rfl) rfl rfl (by decide) ?_; intro b113
                  refine .nil ?_
                  refine Wt.b1 9 (by kernel_rfl) ?_
                  refine apS (xs := (L2 0)) (m) rfl Fx.se22 Fx.zv48 rfl (.u rfl) (.u rfl) (.there (.there (.there (.there (.there (.there .here)))))) .here (Meta.len _) (Meta.one _) (by omega) (by unfold maxLen; omega) ?_; intro v114 ov114
                  refine .nil ?_
                  refine Wt.one 11 (by kernel_rfl) ?_
                  refine iA rfl .no Fx.ar23 (.u rfl) (.u rfl) (fun _ => by omega) (fun _ => by omega) ?_
                  rw [show 0 + m.level.toNat * 1 = 0 from by rw [hm5]; rfl]
                  refine .nil ?_
                  refine Wt.b1 12 (by kernel_rfl) ?_
                  refine s1v rfl (.u rfl) (.u rfl) .here Fx.sz22 (.there (.there (.there (.there (.there (.there (.there .here))))))) (by show _ < 14; first | decide | omega) (rfl) ?_
                  refine .nil ?_
                  refine Wt.last (by kernel_rfl) ?_
                  refine .blk ?_
                  refine .code ?_
                  refine Wk.rg [0, 1] rfl rfl ?_
                  refine arn (((j + 1) : Nat) : Int) rfl .no (.u rfl) (.u rfl) rfl (fun _ => by omega) (fun _ => wrap_i64 (by omega) (by omega)) ?_
                  refine mv rfl .no (.u rfl) ?_
                  refine .nil ?_
                  refine We.lpo (j + 1, v114, w1, w2, w3, w4, updL L2 0 (L2 0 ++ [m])) ?_ ?_ ?_ ?_ ?_
                  · exact (ESub.cons rfl (by first | rfl | exact evi (by omega)) (ESub.cons rfl rfl (ESub.cons rfl rfl (ESub.cons rfl rfl (ESub.cons rfl rfl ESub.nil)))))
                  · exact (MSub.cons (.there (.there (.there (.there .here)))) rfl (MSub.cons (.there (.there (.there (.there .here)))) rfl (MSub.cons (.there (.there (.there (.there .here)))) rfl (MSub.cons (.there (.there (.there (.there .here)))) rfl (MSub.cons (.there .here) rfl (MSub.cons .here rfl (MSub.cons (.there (.there .here)) rfl (MSub.cons (.there (.there .here)) rfl (MSub.cons (.there (.there .here)) rfl MSub.nil)))))))))
                  · first | omega | (dsimp only; omega)
                  · exact hGl2
                  · refine ⟨?_, ?_⟩
                    · (try dsimp only) <;> (first | omega | rfl | assumption | (simp; done))
                    · (try dsimp only) <;> (exact fold_step em hA (addF_hit hm5 (by decide)))
                · refine Go.Tan.b1 rfl Fx.se22 Fx.zv48 (.u rfl) rfl rfl (by decide) ?_; intro b113
                  refine .nil ?_
                  refine Wt.b2 1 9 (by kernel_rfl) ?_ ?_
                  · refine ld rfl .no Fx.ag5 (.u rfl) (fun _ => Rd.own (.there .here) (by first | exact wap_f rfl | rfl)) ?_
                    refine .nil ?_
                    refine Wt.b1 9 (by kernel_rfl) ?_
                    refine apS (xs := (L2 0)) (m) rfl Fx.se22 Fx.zv48 rfl (.u rfl) (.u rfl) (.there (.there (.there (.there (.there (.there .here)))))) .here (Meta.len _) (Meta.one _) (by omega) (by unfold maxLen; omega) ?_; intro v114 ov114
                    refine .nil ?_
                    refine Wt.one 11 (by kernel_rfl) ?_
                    refine iA rfl .no Fx.ar23 (.u rfl) (.u rfl) (fun _ => by omega) (fun _ => by omega) ?_
                    rw [show 0 + m.level.toNat * 1 = 0 from by rw [hm5]; rfl]
                    refine .nil ?_
                    refine Wt.b1 12 (by kernel_rfl) ?_
                    refine s1v rfl (.u rfl) (.u rfl) .here Fx.sz22 (.there (.there (.there (.there (.there (.there (.there .here))))))) (by show _ < 14; first | decide | omega) (rfl) ?_
                    refine .nil ?_
                    refine Wt.last (by kernel_rfl) ?_
                    refine .blk ?_
                    refine .code ?_
                    refine Wk.rg [0, 1] rfl rfl ?_
                    refine arn (((j + 1) : Nat) : Int) rfl .no (.u rfl) (.u rfl) rfl (fun _ => by omega) (fun _ => wrap_i64 (by omega) (by omega)) ?_
                    refine mv rfl .no (.u rfl) ?_
                    refine .nil ?_
                    refine We.lpo (j + 1, v114, w1, w2, w3, w4, updL L2 0 (L2 0 ++ [m])) ?_ ?_ ?_ ?_ ?_
                    · exact (ESub.cons rfl (by first | rfl | exact evi (by omega)) (ESub.cons rfl rfl (ESub.cons rfl rfl (ESub.cons rfl rfl (ESub.cons rfl rfl ESub.nil)))))
                    · exact (MSub.cons (.there (.there (.there (.there .here)))) rfl (MSub.cons (.there (.there (.there (.there .here)))) rfl (MSub.cons (.there (.there (.there (.there .here)))) rfl (MSub.cons (.there (.there (.there (.there .here)))) rfl (MSub.cons (.there .here) rfl (MSub.cons .here rfl (MSub.cons (.there (.there .here)) rfl (MSub.cons (.there (.there .here)) rfl (MSub.cons (.there (.there .here)) rfl MSub.nil)))))))))
                    · first | omega | (dsimp only; omega)
                    · exact hGl2
                    · refine ⟨?_, ?_⟩
                      · (try dsimp only) <;> (first | omega | rfl | assumption | (simp; done))
                      · (try dsimp only) <;> (exact fold_step em hA (addF_hit hm5 (by decide)))
                  · refine apS (xs := (L2 0)) (m) rfl Fx.se22 Fx.zv48 rfl (.u rfl) (.u rfl) (.there (.there (.there (.there (.there (.there .here)))))) .here (Meta.len _) (Meta.one _) (by omega) (by unfold maxLen; omega) ?_; intro v114 ov114
                    refine .nil ?_
                    refine Wt.one 1 (by kernel_rfl) ?_
                    refine ld rfl .no Fx.ag5 (.u rfl) (fun _ => Rd.own (.there (.there .here)) (by first | exact wap_f rfl | rfl)) ?_
                    refine .nil ?_
                    refine Wt.one 11 (by kernel_rfl) ?_
                    refine iA rfl .no Fx.ar23 (.u rfl) (.u rfl) (fun _ => by omega) (fun _ => by omega) ?_
                    rw [show 0 + m.level.toNat * 1 = 0 from by rw [hm5]; rfl]
                    refine .nil ?_
                    refine Wt.b1 12 (by kernel_rfl) ?_
                    refine s1v rfl (.u rfl) (.u rfl) .here Fx.sz22 (.there (.there (.there (.there (.there (.there (.there .here))))))) (by show _ < 14; first | decide | omega) (rfl) ?_
                    refine .nil ?_
                    refine Wt.last (by kernel_rfl) ?_
                    refine .blk ?_
                    refine .code ?_
                    refine Wk.rg [0, 1] rfl rfl ?_
                    refine arn (((j + 1) : Nat) : Int) rfl .no (.u rfl) (.u rfl) rfl (fun _ => by omega) (fun _ => wrap_i64 (by omega) (by omega)) ?_
                    refine mv rfl .no (.u rfl) ?_
                    refine .nil ?_
                    refine We.lpo (j + 1, v114, w1, w2, w3, w4, updL L2 0 (L2 0 ++ [m])) ?_ ?_ ?_ ?_ ?_
                    · exact (ESub.cons rfl (by first | rfl | exact evi (by omega)) (ESub.cons rfl rfl (ESub.cons rfl rfl (ESub.cons rfl rfl (ESub.cons rfl rfl ESub.nil)))))
                    · exact (MSub.cons (.there (.there (.there (.there .here)))) rfl (MSub.cons (.there (.there (.there (.there .here)))) rfl (MSub.cons (.there (.there (.there (.there .here)))) rfl (MSub.cons (.there (.there (.there (.there .here)))) rfl (MSub.cons (.there .here) rfl (MSub.cons .here rfl (MSub.cons (.there (.there .here)) rfl (MSub.cons (.there (.there .here)) rfl (MSub.cons (.there (.there .here)) rfl MSub.nil)))))))))
                    · first | omega | (dsimp only; omega)
                    · exact hGl2
                    · refine ⟨?_, ?_⟩
                      · (try dsimp only) <;> (first | omega | rfl | assumption | (simp; done))
                      · (try dsimp only) <;> (exact fold_step em hA (addF_hit hm5 (by decide)))
              · refine Wk.mix ⟨false, false⟩ Fx.mix (by kernel_rfl) ?_
                have hll := addL_len (N := 1024) hA (i := 1) (dropL_len hri' hL (by decide))
                have htk := List.length_take_le j e.add
                refine Wt.one 0 (by kernel_rfl) ?_
                refine fz rfl .no Fx.fo48_0 (.u rfl) ?_
                refine .nil ?_
                refine Wt.one 2 (by kernel_rfl) ?_
                refine fz rfl .no Fx.fo48_0 (.u rfl) ?_
                refine .nil ?_
                refine Wt.one 3 (by kernel_rfl) ?_
                refine ld rfl .no Fx.ag5 (.u rfl) (fun _ => Rd.own .here (by first | exact wap_f rfl | rfl)) ?_
                refine .nil ?_
                refine Wt.one 4 (by kernel_rfl) ?_
                refine fz rfl .no Fx.fo27_0 (.u rfl) ?_
                refine .nil ?_
                refine Wt.one 5 (by kernel_rfl) ?_
                refine iA rfl .no Fx.ar23 (.u rfl) (.u rfl) (fun _ => by omega) (fun _ => by omega) ?_
                rw [show 0 + m.level.toNat * 1 = 1 from by rw [hm5]; rfl]
                refine .nil ?_
                refine Wt.one 6 (by kernel_rfl) ?_
                refine ld rfl .no Fx.ag22 (.u rfl) (fun _ => Rd.own (.there (.there (.there (.there (.there (.there .here)))))) (by first | exact wap_f rfl | rfl)) ?_
                refine .nil ?_
                refine Wt.one 7 (by kernel_rfl) ?_
                refine lA rfl .no Fx.ag48 (.u rfl) (fun _ => RdN.own .here) (fun _ => Meta.len _) ?_
                refine .nil ?_
                refine Wt.one 10 (by kernel_rfl) ?_
                refine fz rfl .no Fx.fo27_0 (.u rfl) ?_
                refine .nil ?_
                refine Wt.b2 1 8 (by kernel_rfl) ?_ ?_
                · refine ld rfl .no Fx.ag5 (.u rfl) (fun _ => Rd.own .here (by first | exact wap_f rfl | rfl)) ?_
                  refine .nil ?_
                  refine Wt.b1 8 (by kernel_rfl) ?_
                  refine Go.Tan.b1 rfl Fx.se22 Fx.zv48 (.u rfl) rfl rfl (by decide) ?_; intro b113
                  refine .nil ?_
                  refine Wt.b1 9 (by kernel_rfl) ?_
                  refine apS (xs := (L2 1)) (m) rfl Fx.se22 Fx.zv48 rfl (.u rfl) (.u rfl) (.there (.there (.there (.there (.there .here))))) .here (Meta.len _) (Meta.one _) (by omega) (by unfold maxLen; omega) ?_; intro v114 ov114
                  refine .nil ?_
                  refine Wt.one 11 (by kernel_rfl) ?_
                  refine iA rfl .no Fx.ar23 (.u rfl) (.u rfl) (fun _ => by omega) (fun _ => by omega) ?_
                  rw [show 0 + m.level.toNat * 1 = 1 from by rw [hm5]; rfl]
                  refine .nil ?_
                  refine Wt.b1 12 (by kernel_rfl) ?_
                  refine s1v rfl (.u rfl) (.u rfl) .here Fx.sz22 (.there (.there (.there (.there (.there (.there (.there .here))))))) (by show _ < 14; first | decide | omega) (rfl) ?_
                  refine .nil ?_
                  refine Wt.last (by kernel_rfl) ?_
                  refine .blk ?_
                  refine .code ?_
                  refine Wk.rg [0, 1] rfl rfl ?_
                  refine arn (((j + 1) : Nat) : Int) rfl .no (.u rfl) (.u rfl) rfl (fun _ => by omega) (fun _ => wrap_i64 (by omega) (by omega)) ?_
                  refine mv rfl .no (.u rfl) ?_
                  refine .nil ?_
                  refine We.lpo (j + 1, w0, v114, w2, w3, w4, updL L2 1 (L2 1 ++ [m])) ?_ ?_ ?_ ?_ ?_
                  · exact (ESub.cons rfl (by first | rfl | exact evi (by omega)) (ESub.cons rfl rfl (ESub.cons rfl rfl (ESub.cons rfl rfl (ESub.cons rfl rfl ESub.nil)))))
                  · exact (MSub.cons (.there (.there (.there (.there .here)))) rfl (MSub.cons (.there (.there (.there (.there .here)))) rfl (MSub.cons (.there (.there (.there (.there .here)))) rfl (MSub.cons (.there .here) rfl (MSub.cons (.there (.there (.there .here))) rfl (MSub.cons .here rfl (MSub.cons (.there (.there .here)) rfl (MSub.cons (.there (.there .here)) rfl (MSub.cons (.there (.there .here)) rfl MSub.nil)))))))))
                  · first | omega | (dsimp only; omega)
                  · exact hGl2
                  · refine ⟨?_, ?_⟩
                    · (try dsimp only) <;> (first | omega | rfl | assumption | (simp; done))
                    · (try dsimp only) <;> (exact fold_step em hA (addF_hit hm5 (by decide)))
                · refine Go.Tan.b1 rfl Fx.se22 Fx.zv48 (.u rfl) rfl rfl (by decide) ?_; intro b113
                  refine .nil ?_
                  refine Wt.b2 1 9 (by kernel_rfl) ?_ ?_
                  · refine ld rfl .no Fx.ag5 (.u rfl) (fun _ => Rd.own (.there .here) (by first | exact wap_f rfl | rfl)) ?_
                    refine .nil ?_
                    refine Wt.b1 9 (by kernel_rfl) ?_
                    refine apS (xs := (L2 1)) (m) rfl Fx.se22 Fx.zv48 rfl (.u rfl) (.u rfl) (.there (.there (.there (.there (.there .here))))) .here (Meta.len _) (Meta.one _) (by omega) (by unfold maxLen; omega) ?_; intro v114 ov114
                    refine .nil ?_
                    refine Wt.one 11 (by kernel_rfl) ?_
                    refine iA rfl .no Fx.ar23 (.u rfl) (.u rfl) (fun _ => by omega) (fun _ => by omega) ?_
                    rw [show 0 + m.level.toNat * 1 = 1 from by rw [hm5]; rfl]
                    refine .nil ?_
                    refine Wt.b1 12 (by kernel_rfl) ?_
                    refine s1v rfl (.u rfl) (.u rfl) .here Fx.sz22 (.there (.there (.there (.there (.there (.there (.there .here))))))) (by show _ < 14; first | decide | omega) (rfl) ?_
                    refine .nil ?_
                    refine Wt.last (by kernel_rfl) ?_
                    refine .blk ?_
                    refine .code ?_
                    refine Wk.rg [0, 1] rfl rfl ?_
                    refine arn (((j + 1) : Nat) : Int) rfl .no (.u rfl) (.u rfl) rfl (fun _ => by omega) (fun _ => wrap_i64 (by omega) (by omega)) ?_
                    refine mv rfl .no (.u rfl) ?_
                    refine .nil ?_
                    refine We.lpo (j + 1, w0, v114, w2, w3, w4, updL L2 1 (L2 1 ++ [m])) ?_ ?_ ?_ ?_ ?_
                    · exact (ESub.cons rfl (by first | rfl | exact evi (by omega)) (ESub.cons rfl rfl (ESub.cons rfl rfl (ESub.cons rfl rfl (ESub.cons rfl rfl ESub.nil)))))
                    · exact (MSub.cons (.there (.there (.there (.there .here)))) rfl (MSub.cons (.there (.there (.there (.there .here)))) rfl (MSub.cons (.there (.there (.there (.there .here)))) rfl (MSub.cons (.there .here) rfl (MSub.cons (.there (.there (.there .here))) rfl (MSub.cons .here rfl (MSub.cons (.there (.there .here)) rfl (MSub.cons (.there (.there .here)) rfl (MSub.cons (.there (.there .here)) rfl MSub.nil)))))))))
                    · first | omega | (dsimp only; omega)
                    · exact hGl2
                    · refine ⟨?_, ?_⟩
                      · (try dsimp only) <;> (first | omega | rfl | assumption | (simp; done))
                      · (try dsimp only) <;> (exact fold_step em hA (addF_hit hm5 (by decide)))
                  · refine apS (xs := (L2 1)) (m) rfl Fx.se22 Fx.zv48 rfl (.u rfl) (.u rfl) (.there (.there (.there (.there (.there .here))))) .here (Meta.len _) (Meta.one _) (by omega) (by unfold maxLen; omega) ?_; intro v114 ov114
                    refine .nil ?_
                    refine Wt.one 1 (by kernel_rfl) ?_
                    refine ld rfl .no Fx.ag5 (.u rfl) (fun _ => Rd.own (.there (.there .here)) (by first | exact wap_f rfl | rfl)) ?_
                    refine .nil ?_
                    refine Wt.one 11 (by kernel_rfl) ?_
                    refine iA rfl .no Fx.ar23 (.u rfl) (.u rfl) (fun _ => by omega) (fun _ => by omega) ?_
                    rw [show 0 + m.level.toNat * 1 = 1 from by rw [hm5]; rfl]
                    refine .nil ?_
                    refine Wt.b1 12 (by kernel_rfl) ?_
                    refine s1v rfl (.u rfl) (.u rfl) .here Fx.sz22 (.there (.there (.there (.there (.there (.there (.there .here))))))) (by show _ < 14; first | decide | omega) (rfl) ?_
                    refine .nil ?_
                    refine Wt.last (by kernel_rfl) ?_
                    refine .blk ?_
                    refine .code ?_
                    refine Wk.rg [0, 1] rfl rfl ?_
                    refine arn (((j + 1) : Nat) : Int) rfl .no (.u rfl) (.u rfl) rfl (fun _ => by omega) (fun _ => wrap_i64 (by omega) (by omega)) ?_
                    refine mv rfl .no (.u rfl) ?_
                    refine .nil ?_
                    refine We.lpo (j + 1, w0, v114, w2, w3, w4, updL L2 1 (L2 1 ++ [m])) ?_ ?_ ?_ ?_ ?_
                    · exact (ESub.cons rfl (by first | rfl | exact evi (by omega)) (ESub.cons rfl rfl (ESub.cons rfl rfl (ESub.cons rfl rfl (ESub.cons rfl rfl ESub.nil)))))
                    · exact (MSub.cons (.there (.there (.there (.there .here)))) rfl (MSub.cons (.there (.there (.there (.there .here)))) rfl (MSub.cons (.there (.there (.there (.there .here)))) rfl (MSub.cons (.there .here) rfl (MSub.cons (.there (.there (.there .here))) rfl (MSub.cons .here rfl (MSub.cons (.there (.there .here)) rfl (MSub.cons (.there (.there .here)) rfl (MSub.cons (.there (.there .here)) rfl MSub.nil)))))))))
                    · first | omega | (dsimp only; omega)
                    · exact hGl2
                    · refine ⟨?_, ?_⟩
                      · (try dsimp only) <;> (first | omega | rfl | assumption | (simp; done))
                      · (try dsimp only) <;> (exact fold_step em hA (addF_hit hm5 (by decide)))
              · refine Wk.mix ⟨false, false⟩ Fx.mix (by kernel_rfl) ?_
                have hll := addL_len (N := 1024) hA (i := 2) (dropL_len hri' hL (by decide))
                have htk := List.length_take_le j e.add
                refine Wt.one 0 (by kernel_rfl) ?_
                refine fz rfl .no Fx.fo48_0 (.u rfl) ?_
                refine .nil ?_
                refine Wt.one 2 (by kernel_rfl) ?_
                refine fz rfl .no Fx.fo48_0 (.u rfl) ?_
                refine .nil ?_
                refine Wt.one 3 (by kernel_rfl) ?_
                refine ld rfl .no Fx.ag5 (.u rfl) (fun _ => Rd.own .here (by first | exact wap_f rfl | rfl)) ?_
                refine .nil ?_
                refine Wt.one 4 (by kernel_rfl) ?_
                refine fz rfl .no Fx.fo27_0 (.u rfl) ?_
                refine .nil ?_
                refine Wt.one 5 (by kernel_rfl) ?_
                refine iA rfl .no Fx.ar23 (.u rfl) (.u rfl) (fun _ => by omega) (fun _ => by omega) ?_
                rw [show 0 + m.level.toNat * 1 = 2 from by rw [hm5]; rfl]
                refine .nil ?_
                refine Wt.one 6 (by kernel_rfl) ?_
                refine ld rfl .no Fx.ag22 (.u rfl) (fun _ => Rd.own (.there (.there (.there (.there (.there (.there .here)))))) (by first | exact wap_f rfl | rfl)) ?_
                refine .nil ?_
                refine Wt.one 7 (by kernel_rfl) ?_
                refine lA rfl .no Fx.ag48 (.u rfl) (fun _ => RdN.own .here) (fun _ => Meta.len _) ?_
                refine .nil ?_
                refine Wt.one 10 (by kernel_rfl) ?_
                refine fz rfl .no Fx.fo27_0 (.u rfl) ?_
                refine .nil ?_
                refine Wt.b2 1 8 (by kernel_rfl) ?_ ?_
                · refine ld rfl .no Fx.ag5 (.u rfl) (fun _ => Rd.own .here (by first | exact wap_f rfl | rfl)) ?_
                  refine .nil ?_
                  refine Wt.b1 8 (by kernel_rfl) ?_
                  refine Go.Tan.b1 rfl Fx.se22 Fx.zv48 (.u rfl) rfl rfl (by decide) ?_; intro b113
                  refine .nil ?_
                  refine Wt.b1 9 (by kernel_rfl) ?_
                  refine apS (xs := (L2 2)) (m) rfl Fx.se22 Fx.zv48 rfl (.u rfl) (.u rfl) (.there (.there (.there (.there .here)))) .here (Meta.len _) (Meta.one _) (by omega) (by unfold maxLen; omega) ?_; intro v114 ov114
                  refine .nil ?_
                  refine Wt.one 11 (by kernel_rfl) ?_
                  refine iA rfl .no Fx.ar23 (.u rfl) (.u rfl) (fun _ => by omega) (fun _ => by omega) ?_
                  rw [show 0 + m.level.toNat * 1 = 2 from by rw [hm5]; rfl]
                  refine .nil ?_
                  refine Wt.b1 12 (by kernel_rfl) ?_
                  refine s1v rfl (.u rfl) (.u rfl) .here Fx.sz22 (.there (.there (.there (.there (.there (.there (.there .here))))))) (by show _ < 14; first | decide | omega) (rfl) ?_
                  refine .nil ?_
                  refine Wt.last (by kernel_rfl) ?_
                  refine .blk ?_
                  refine .code ?_
                  refine Wk.rg [0, 1] rfl rfl ?_
                  refine arn (((j + 1) : Nat) : Int) rfl .no (.u rfl) (.u rfl) rfl (fun _ => by omega) (fun _ => wrap_i64 (by omega) (by omega)) ?_
                  refine mv rfl .no (.u rfl) ?_
                  refine .nil ?_
                  refine We.lpo (j + 1, w0, w1, v114, w3, w4, updL L2 2 (L2 2 ++ [m])) ?_ ?_ ?_ ?_ ?_
                  · exact (ESub.cons rfl (by first | rfl | exact evi (by omega)) (ESub.cons rfl rfl (ESub.cons rfl rfl (ESub.cons rfl rfl (ESub.cons rfl rfl ESub.nil)))))
                  · exact (MSub.cons (.there (.there (.there (.there .here)))) rfl (MSub.cons (.there (.there (.there (.there .here)))) rfl (MSub.cons (.there .here) rfl (MSub.cons (.there (.there (.there .here))) rfl (MSub.cons (.there (.there (.there .here))) rfl (MSub.cons .here rfl (MSub.cons (.there (.there .here)) rfl (MSub.cons (.there (.there .here)) rfl (MSub.cons (.there (.there .here)) rfl MSub.nil)))))))))
                  · first | omega | (dsimp only; omega)
                  · exact hGl2
                  · refine ⟨?_, ?_⟩
                    · (try dsimp only) <;> (first | omega | rfl | assumption | (simp; done))
                    · (try dsimp only) <;> (exact fold_step em hA (addF_hit hm5 (by decide)))
                · refine Go.Tan.b1 rfl Fx.se22 Fx.zv48 (.u rfl) rfl rfl (by decide) ?_; intro b113
                  refine .nil ?_
                  refine Wt.b2 1 9 (by kernel_rfl) ?_ ?_
                  · refine ld rfl .no Fx.ag5 (.u rfl) (fun _ => Rd.own (.there .here) (by first | exact wap_f rfl | rfl)) ?_
                    refine .nil ?_
                    refine Wt.b1 9 (by kernel_rfl) ?_
                    refine apS (xs := (L2 2)) (m) rfl Fx.se22 Fx.zv48 rfl (.u rfl) (.u rfl) (.there (.there (.there (.there .here)))) .here (Meta.len _) (Meta.one _) (by omega) (by unfold maxLen; omega) ?_; intro v114 ov114
                    refine .nil ?_
                    refine Wt.one 11 (by kernel_rfl) ?_
                    refine iA rfl .no Fx.ar23 (.u rfl) (.u rfl) (fun _ => by omega) (fun _ => by omega) ?_
                    rw [show 0 + m.level.toNat * 1 = 2 from by rw [hm5]; rfl]
                    refine .nil ?_
                    refine Wt.b1 12 (by kernel_rfl) ?_
                    refine s1v rfl (.u rfl) (.u rfl) .here Fx.sz22 (.there (.there (.there (.there (.there (.there (.there .here))))))) (by show _ < 14; first | decide | omega) (rfl) ?_
                    refine .nil ?_
                    refine Wt.last (by kernel_rfl) ?_
                    refine .blk ?_
                    refine .code ?_
                    refine Wk.rg [0, 1] rfl rfl ?_
                    refine arn (((j + 1) : Nat) : Int) rfl .no (.u rfl) (.u rfl) rfl (fun _ => by omega) (fun _ => wrap_i64 (by omega) (by omega)) ?_
                    refine mv rfl .no (.u rfl) ?_
                    refine .nil ?_
                    refine We.lpo (j + 1, w0, w1, v114, w3, w4, updL L2 2 (L2 2 ++ [m])) ?_ ?_ ?_ ?_ ?_
                    · exact (ESub.cons rfl (by first | rfl | exact evi (by omega)) (ESub.cons rfl rfl (ESub.cons rfl rfl (ESub.cons rfl rfl (ESub.cons rfl rfl ESub.nil)))))
                    · exact (MSub.cons (.there (.there (.there (.there .here)))) rfl (MSub.cons (.there (.there (.there (.there .here)))) rfl (MSub.cons (.there .here) rfl (MSub.cons (.there (.there (.there .here))) rfl (MSub.cons (.there (.there (.there .here))) rfl (MSub.cons .here rfl (MSub.cons (.there (.there .here)) rfl (MSub.cons (.there (.there .here)) rfl (MSub.cons (.there (.there .here)) rfl MSub.nil)))))))))
                    · first | omega | (dsimp only; omega)
                    · exact hGl2
                    · refine ⟨?_, ?_⟩
                      · (try dsimp only) <;> (first | omega | rfl | assumption | (simp; done))
                      · (try dsimp only) <;> (exact fold_step em hA (addF_hit hm5 (by decide)))
                  · refine apS (xs := (L2 2)) (m) rfl Fx.se22 Fx.zv48 rfl (.u rfl) (.u rfl) (.there (.there (.there (.there .here)))) .here (Meta.len _) (Meta.one _) (by omega) (by unfold maxLen; omega) ?_; intro v114 ov114
                    refine .nil ?_
                    refine Wt.one 1 (by kernel_rfl) ?_
                    refine ld rfl .no Fx.ag5 (.u rfl) (fun _ => Rd.own (.there (.there .here)) (by first | exact wap_f rfl | rfl)) ?_
                    refine .nil ?_
                    refine Wt.one 11 (by kernel_rfl) ?_
                    refine iA rfl .no Fx.ar23 (.u rfl) (.u rfl) (fun _ => by omega) (fun _ => by omega) ?_
                    rw [show 0 + m.level.toNat * 1 = 2 from by rw [hm5]; rfl]
                    refine .nil ?_
                    refine Wt.b1 12 (by kernel_rfl) ?_
                    refine s1v rfl (.u rfl) (.u rfl) .here Fx.sz22 (.there (.there (.there (.there (.there (.there (.there .here))))))) (by show _ < 14; first | decide | omega) (rfl) ?_
                    refine .nil ?_
                    refine Wt.last (by kernel_rfl) ?_
                    refine .blk ?_
                    refine .code ?_
                    refine Wk.rg [0, 1] rfl rfl ?_
                    refine arn (((j + 1) : Nat) : Int) rfl .no (.u rfl) (.u rfl) rfl (fun _ => by omega) (fun _ => wrap_i64 (by omega) (by omega)) ?_
                    refine mv rfl .no (.u rfl) ?_
                    refine .nil ?_
                    refine We.lpo (j + 1, w0, w1, v114, w3, w4, updL L2 2 (L2 2 ++ [m])) ?_ ?_ ?_ ?_ ?_
                    · exact (ESub.cons rfl (by first | rfl | exact evi (by omega)) (ESub.cons rfl rfl (ESub.cons rfl rfl (ESub.cons rfl rfl (ESub.cons rfl rfl ESub.nil)))))
                    · exact (MSub.cons (.there (.there (.there (.there .here)))) rfl (MSub.cons (.there (.there (.there (.there .here)))) rfl (MSub.cons (.there .here) rfl (MSub.cons (.there (.there (.there .here))) rfl (MSub.cons (.there (.there (.there .here))) rfl (MSub.cons .here rfl (MSub.cons (.there (.there .here)) rfl (MSub.cons (.there (.there .here)) rfl (MSub.cons (.there (.there .here)) rfl MSub.nil)))))))))
                    · first | omega | (dsimp only; omega)
                    · exact hGl2
                    · refine ⟨?_, ?_⟩
                      · (try dsimp only) <;> (first | omega | rfl | assumption | (simp; done))
                      · (try dsimp only) <;> (exact fold_step em hA (addF_hit hm5 (by decide)))
              · refine Wk.mix ⟨false, false⟩ Fx.mix (by kernel_rfl) ?_
                have hll := addL_len (N := 1024) hA (i := 3) (dropL_len hri' hL (by decide))
                have htk := List.length_take_le j e.add
                refine Wt.one 0 (by kernel_rfl) ?_
                refine fz rfl .no Fx.fo48_0 (.u rfl) ?_
                refine .nil ?_
                refine Wt.one 2 (by kernel_rfl) ?_
                refine fz rfl .no Fx.fo48_0 (.u rfl) ?_
                refine .nil ?_
                refine Wt.one 3 (by kernel_rfl) ?_
                refine ld rfl .no Fx.ag5 (.u rfl) (fun _ => Rd.own .here (by first | exact wap_f rfl | rfl)) ?_
                refine .nil ?_
                refine Wt.one 4 (by kernel_rfl) ?_
                refine fz rfl .no Fx.fo27_0 (.u rfl) ?_
                refine .nil ?_
                refine Wt.one 5 (by kernel_rfl) ?_
                refine iA rfl .no Fx.ar23 (.u rfl) (.u rfl) (fun _ => by omega) (fun _ => by omega) ?_
                rw [show 0 + m.level.toNat * 1 = 3 from by rw [hm5]; rfl]
                refine .nil ?_
                refine Wt.one 6 (by kernel_rfl) ?_
                refine ld rfl .no Fx.ag22 (.u rfl) (fun _ => Rd.own (.there (.there (.there (.there (.there (.there .here)))))) (by first | exact wap_f rfl | rfl)) ?_
                refine .nil ?_
                refine Wt.one 7 (by kernel_rfl) ?_
                refine lA rfl .no Fx.ag48 (.u rfl) (fun _ => RdN.own .here) (fun _ => Meta.len _) ?_
                refine .nil ?_
                refine Wt.one 10 (by kernel_rfl) ?_
                refine fz rfl .no Fx.fo27_0 (.u rfl) ?_
                refine .nil ?_
                refine Wt.b2 1 8 (by kernel_rfl) ?_ ?_
                · refine ld rfl .no Fx.ag5 (.u rfl) (fun _ => Rd.own .here (by first | exact wap_f rfl | rfl)) ?_
                  refine .nil ?_
                  refine Wt.b1 8 (by kernel_rfl) ?_
                  refine Go.Tan.b1 rfl Fx.se22 Fx.zv48 (.u rfl) rfl rfl (by decide) ?_; intro b113
                  refine .nil ?_
                  refine Wt.b1 9 (by kernel_rfl) ?_
                  refine apS (xs := (L2 3)) (m) rfl Fx.se22 Fx.zv48 rfl (.u rfl) (.u rfl) (.there (.there (.there .here))) .here (Meta.len _) (Meta.one _) (by omega) (by unfold maxLen; omega) ?_; intro v114 ov114
                  refine .nil ?_
                  refine Wt.one 11 (by kernel_rfl) ?_
                  refine iA rfl .no Fx.ar23 (.u rfl) (.u rfl) (fun _ => by omega) (fun _ => by omega) ?_
                  rw [show 0 + m.level.toNat * 1 = 3 from by rw [hm5]; rfl]
                  refine .nil ?_
                  refine Wt.b1 12 (by kernel_rfl) ?_
                  refine s1v rfl (.u rfl) (.u rfl) .here Fx.sz22 (.there (.there (.there (.there (.there (.there (.there .here))))))) (by show _ < 14; first | decide | omega) (rfl) ?_
                  refine .nil ?_
                  refine Wt.last (by kernel_rfl) ?_
                  refine .blk ?_
                  refine .code ?_
                  refine Wk.rg [0, 1] rfl rfl ?_
                  refine arn (((j + 1) : Nat) : Int) rfl .no (.u rfl) (.u rfl) rfl (fun _ => by omega) (fun _ => wrap_i64 (by omega) (by omega)) ?_
                  refine mv rfl .no (.u rfl) ?_
                  refine .nil ?_
                  refine We.lpo (j + 1, w0, w1, w2, v114, w4, updL L2 3 (L2 3 ++ [m])) ?_ ?_ ?_ ?_ ?_
                  · exact (ESub.cons rfl (by first | rfl | exact evi (by omega)) (ESub.cons rfl rfl (ESub.cons rfl rfl (ESub.cons rfl rfl (ESub.cons rfl rfl ESub.nil)))))
                  · exact (MSub.cons (.there (.there (.there (.there .here)))) rfl (MSub.cons (.there .here) rfl (MSub.cons (.there (.there (.there .here))) rfl (MSub.cons (.there (.there (.there .here))) rfl (MSub.cons (.there (.there (.there .here))) rfl (MSub.cons .here rfl (MSub.cons (.there (.there .here)) rfl (MSub.cons (.there (.there .here)) rfl (MSub.cons (.there (.there .here)) rfl MSub.nil)))))))))
                  · first | omega | (dsimp only; omega)
                  · exact hGl2
                  · refine ⟨?_, ?_⟩
                    · (try dsimp only) <;> (first | omega | rfl | assumption | (simp; done))
                    · (try dsimp only) <;> (exact fold_step em hA (addF_hit hm5 (by decide)))
                · refine Go.Tan.b1 rfl Fx.se22 Fx.zv48 (.u rfl) rfl rfl (by decide) ?_; intro b113
                  refine .nil ?_
                  refine Wt.b2 1 9 (by kernel_rfl) ?_ ?_
                  · refine ld rfl .no Fx.ag5 (.u rfl) (fun _ => Rd.own (.there .here) (by first | exact wap_f rfl | rfl)) ?_
                    refine .nil ?_
                    refine Wt.b1 9 (by kernel_rfl) ?_
                    refine apS (xs := (L2 3)) (m) rfl Fx.se22 Fx.zv48 rfl (.u rfl) (.u rfl) (.there (.there (.there .here))) .here (Meta.len _) (Meta.one _) (by omega) (by unfold maxLen; omega) ?_; intro v114 ov114
                    refine .nil ?_
                    refine Wt.one 11 (by kernel_rfl) ?_
                    refine iA rfl .no Fx.ar23 (.u rfl) (.u rfl) (fun _ => by omega) (fun _ => by omega) ?_
                    rw [show 0 + m.level.toNat * 1 = 3 from by rw [hm5]; rfl]
                    refine .nil ?_
                    refine Wt.b1 12 (by kernel_rfl) ?_
                    refine s1v rfl (.u rfl) (.u rfl) .here Fx.sz22 (.there (.there (.there (.there (.there (.there (.there .here))))))) (by show _ < 14; first | decide | omega) (rfl) ?_
                    refine .nil ?_
                    refine Wt.last (by kernel_rfl) ?_
                    refine .blk ?_
                    refine .code ?_
                    refine Wk.rg [0, 1] rfl rfl ?_
                    refine arn (((j + 1) : Nat) : Int) rfl .no (.u rfl) (.u rfl) rfl (fun _ => by omega) (fun _ => wrap_i64 (by omega) (by omega)) ?_
                    refine mv rfl .no (.u rfl) ?_
                    refine .nil ?_
                    refine We.lpo (j + 1, w0, w1, w2, v114, w4, updL L2 3 (L2 3 ++ [m])) ?_ ?_ ?_ ?_ ?_
                    · exact (ESub.cons rfl (by first | rfl | exact evi (by omega)) (ESub.cons rfl rfl (ESub.cons rfl rfl (ESub.cons rfl rfl (ESub.cons rfl rfl ESub.nil)))))
                    · exact (MSub.cons (.there (.there (.there (.there .here)))) rfl (MSub.cons (.there .here) rfl (MSub.cons (.there (.there (.there .here))) rfl (MSub.cons (.there (.there (.there .here))) rfl (MSub.cons (.there (.there (.there .here))) rfl (MSub.cons .here rfl (MSub.cons (.there (.there .here)) rfl (MSub.cons (.there (.there .here)) rfl (MSub.cons (.there (.there .here)) rfl MSub.nil)))))))))
                    · first | omega | (dsimp only; omega)
                    · exact hGl2
                    · refine ⟨?_, ?_⟩
                      · (try dsimp only) <;> (first | omega | rfl | assumption | (simp; done))
                      · (try dsimp only) <;> (exact fold_step em hA (addF_hit hm5 (by decide)))
                  · refine apS (xs := (L2 3)) (m) rfl Fx.se22 Fx.zv48 rfl (.u rfl) (.u rfl) (.there (.there (.there .here))) .here (Meta.len _) (Meta.one _) (by omega) (by unfold maxLen; omega) ?_; intro v114 ov114
                    refine .nil ?_
                    refine Wt.one 1 (by kernel_rfl) ?_
                    refine ld rfl .no Fx.ag5 (.u rfl) (fun _ => Rd.own (.there (.there .here)) (by first | exact wap_f rfl | rfl)) ?_
                    refine .nil ?_
                    refine Wt.one 11 (by kernel_rfl) ?_
                    refine iA rfl .no Fx.ar23 (.u rfl) (.u rfl) (fun _ => by omega) (fun _ => by omega) ?_
                    rw [show 0 + m.level.toNat * 1 = 3 from by rw [hm5]; rfl]
                    refine .nil ?_
                    refine Wt.b1 12 (by kernel_rfl) ?_
                    refine s1v rfl (.u rfl) (.u rfl) .here Fx.sz22 (.there (.there (.there (.there (.there (.there (.there .here))))))) (by show _ < 14; first | decide | omega) (rfl) ?_
                    refine .nil ?_
                    refine Wt.last (by kernel_rfl) ?_
                    refine .blk ?_
                    refine .code ?_
                    refine Wk.rg [0, 1] rfl rfl ?_
                    refine arn (((j + 1) : Nat) : Int) rfl .no (.u rfl) (.u rfl) rfl (fun _ => by omega) (fun _ => wrap_i64 (by omega) (by omega)) ?_
                    refine mv rfl .no (.u rfl) ?_
                    refine .nil ?_
                    refine We.lpo (j + 1, w0, w1, w2, v114, w4, updL L2 3 (L2 3 ++ [m])) ?_ ?_ ?_ ?_ ?_
                    · exact (ESub.cons rfl (by first | rfl | exact evi (by omega)) (ESub.cons rfl rfl (ESub.cons rfl rfl (ESub.cons rfl rfl (ESub.cons rfl rfl ESub.nil)))))
                    · exact (MSub.cons (.there (.there (.there (.there .here)))) rfl (MSub.cons (.there .here) rfl (MSub.cons (.there (.there (.there .here))) rfl (MSub.cons (.there (.there (.there .here))) rfl (MSub.cons (.there (.there (.there .here))) rfl (MSub.cons .here rfl (MSub.cons (.there (.there .here)) rfl (MSub.cons (.there (.there .here)) rfl (MSub.cons (.there (.there .here)) rfl MSub.nil)))))))))
                    · first | omega | (dsimp only; omega)
                    · exact hGl2
                    · refine ⟨?_, ?_⟩
                      · (try dsimp only) <;> (first | omega | rfl | assumption | (simp; done))
                      · (try dsimp only) <;> (exact fold_step em hA (addF_hit hm5 (by decide)))
              · refine Wk.mix ⟨false, false⟩ Fx.mix (by kernel_rfl) ?_
                have hll := addL_len (N := 1024) hA (i := 4) (dropL_len hri' hL (by decide))
                have htk := List.length_take_le j e.add
                refine Wt.one 0 (by kernel_rfl) ?_
                refine fz rfl .no Fx.fo48_0 (.u rfl) ?_
                refine .nil ?_
                refine Wt.one 2 (by kernel_rfl) ?_
                refine fz rfl .no Fx.fo48_0 (.u rfl) ?_
                refine .nil ?_
                refine Wt.one 3 (by kernel_rfl) ?_
                refine ld rfl .no Fx.ag5 (.u rfl) (fun _ => Rd.own .here (by first | exact wap_f rfl | rfl)) ?_
                refine .nil ?_
                refine Wt.one 4 (by kernel_rfl) ?_
                refine fz rfl .no Fx.fo27_0 (.u rfl) ?_
                refine .nil ?_
                refine Wt.one 5 (by kernel_rfl) ?_
                refine iA rfl .no Fx.ar23 (.u rfl) (.u rfl) (fun _ => by omega) (fun _ => by omega) ?_
                rw [show 0 + m.level.toNat * 1 = 4 from by rw [hm5]; rfl]
                refine .nil ?_
                refine Wt.one 6 (by kernel_rfl) ?_
                refine ld rfl .no Fx.ag22 (.u rfl) (fun _ => Rd.own (.there (.there (.there (.there (.there (.there .here)))))) (by first | exact wap_f rfl | rfl)) ?_
                refine .nil ?_
                refine Wt.one 7 (by kernel_rfl) ?_
                refine lA rfl .no Fx.ag48 (.u rfl) (fun _ => RdN.own .here) (fun _ => Meta.len _) ?_
                refine .nil ?_
                refine Wt.one 10 (by kernel_rfl) ?_
                refine fz rfl .no Fx.fo27_0 (.u rfl) ?_
                refine .nil ?_
                refine Wt.b2 1 8 (by kernel_rfl) ?_ ?_
                · refine ld rfl .no Fx.ag5 (.u rfl) (fun _ => Rd.own .here (by first | exact wap_f rfl | rfl)) ?_
                  refine .nil ?_
                  refine Wt.b1 8 (by kernel_rfl) ?_
                  refine Go.Tan.b1 rfl Fx.se22 Fx.zv48 (.u rfl) rfl rfl (by decide) ?_; intro b113
                  refine .nil ?_
                  refine Wt.b1 9 (by kernel_rfl) ?_
                  refine apS (xs := (L2 4)) (m) rfl Fx.se22 Fx.zv48 rfl (.u rfl) (.u rfl) (.there (.there .here)) .here (Meta.len _) (Meta.one _) (by omega) (by unfold maxLen; omega) ?_; intro v114 ov114
                  refine .nil ?_
                  refine Wt.one 11 (by kernel_rfl) ?_
                  refine iA rfl .no Fx.ar23 (.u rfl) (.u rfl) (fun _ => by omega) (fun _ => by omega) ?_
                  rw [show 0 + m.level.toNat * 1 = 4 from by rw [hm5]; rfl]
                  refine .nil ?_
                  refine Wt.b1 12 (by kernel_rfl) ?_
                  refine s1v rfl (.u rfl) (.u rfl) .here Fx.sz22 (.there (.there (.there (.there (.there (.there (.there .here))))))) (by show _ < 14; first | decide | omega) (rfl) ?_
                  refine .nil ?_
                  refine Wt.last (by kernel_rfl) ?_
                  refine .blk ?_
                  refine .code ?_
                  refine Wk.rg [0, 1] rfl rfl ?_
                  refine arn (((j + 1) : Nat) : Int) rfl .no (.u rfl) (.u rfl) rfl (fun _ => by omega) (fun _ => wrap_i64 (by omega) (by omega)) ?_
                  refine mv rfl .no (.u rfl) ?_
                  refine .nil ?_
                  refine We.lpo (j + 1, w0, w1, w2, w3, v114, updL L2 4 (L2 4 ++ [m])) ?_ ?_ ?_ ?_ ?_
                  · exact (ESub.cons rfl (by first | rfl | exact evi (by omega)) (ESub.cons rfl rfl (ESub.cons rfl rfl (ESub.cons rfl rfl (ESub.cons rfl rfl ESub.nil)))))
                  · exact (MSub.cons (.there .here) rfl (MSub.cons (.there (.there (.there .here))) rfl (MSub.cons (.there (.there (.there .here))) rfl (MSub.cons (.there (.there (.there .here))) rfl (MSub.cons (.there (.there (.there .here))) rfl (MSub.cons .here rfl (MSub.cons (.there (.there .here)) rfl (MSub.cons (.there (.there .here)) rfl (MSub.cons (.there (.there .here)) rfl MSub.nil)))))))))
                  · first | omega | (dsimp only; omega)
                  · exact hGl2
                  · refine ⟨?_, ?_⟩
                    · (try dsimp only) <;> (first | omega | rfl | assumption | (simp; done))
                    · (try dsimp only) <;> (exact fold_step em hA (addF_hit hm5 (by decide)))
                · refine Go.Tan.b1 rfl Fx.se22 Fx.zv48 (.u rfl) rfl rfl (by decide) ?_; intro b113
                  refine .nil ?_
                  refine Wt.b2 1 9 (by kernel_rfl) ?_ ?_
                  · refine ld rfl .no Fx.ag5 (.u rfl) (fun _ => Rd.own (.there .here) (by first | exact wap_f rfl | rfl)) ?_
                    refine .nil ?_
                    refine Wt.b1 9 (by kernel_rfl) ?_
                    refine apS (xs := (L2 4)) (m) rfl Fx.se22 Fx.zv48 rfl (.u rfl) (.u rfl) (.there (.there .here)) .here (Meta.len _) (Meta.one _) (by omega) (by unfold maxLen; omega) ?_; intro v114 ov114
                    refine .nil ?_
                    refine Wt.one 11 (by kernel_rfl) ?_
                    refine iA rfl .no Fx.ar23 (.u rfl) (.u rfl) (fun _ => by omega) (fun _ => by omega) ?_
                    rw [show 0 + m.level.toNat * 1 = 4 from by rw [hm5]; rfl]
                    refine .nil ?_
                    refine Wt.b1 12 (by kernel_rfl) ?_
                    refine s1v rfl (.u rfl) (.u rfl) .here Fx.sz22 (.there (.there (.there (.there (.there (.there (.there .here))))))) (by show _ < 14; first | decide | omega) (rfl) ?_
                    refine .nil ?_
                    refine Wt.last (by kernel_rfl) ?_
                    refine .blk ?_
                    refine .code ?_
                    refine Wk.rg [0, 1] rfl rfl ?_
                    refine arn (((j + 1) : Nat) : Int) rfl .no (.u rfl) (.u rfl) rfl (fun _ => by omega) (fun _ => wrap_i64 (by omega) (by omega)) ?_
                    refine mv rfl .no (.u rfl) ?_
                    refine .nil ?_
                    refine We.lpo (j + 1, w0, w1, w2, w3, v114, updL L2 4 (L2 4 ++ [m])) ?_ ?_ ?_ ?_ ?_
                    · exact (ESub.cons rfl (by first | rfl | exact evi (by omega)) (ESub.cons rfl rfl (ESub.cons rfl rfl (ESub.cons rfl rfl (ESub.cons rfl rfl ESub.nil)))))
                    · exact (MSub.cons (.there .here) rfl (MSub.cons (.there (.there (.there .here))) rfl (MSub.cons (.there (.there (.there .here))) rfl (MSub.cons (.there (.there (.there .here))) rfl (MSub.cons (.there (.there (.there .here))) rfl (MSub.cons .here rfl (MSub.cons (.there (.there .here)) rfl (MSub.cons (.there (.there .here)) rfl (MSub.cons (.there (.there .here)) rfl MSub.nil)))))))))
                    · first | omega | (dsimp only; omega)
                    · exact hGl2
                    · refine ⟨?_, ?_⟩
                      · (try dsimp only) <;> (first | omega | rfl | assumption | (simp; done))
                      · (try dsimp only) <;> (exact fold_step em hA (addF_hit hm5 (by decide)))
                  · refine apS (xs := (L2 4)) (m) rfl Fx.se22 Fx.zv48 rfl (.u rfl) (.u rfl) (.there (.there .here)) .here (Meta.len _) (Meta.one _) (by omega) (by unfold maxLen; omega) ?_; intro v114 ov114
                    refine .nil ?_
                    refine Wt.one 1 (by kernel_rfl) ?_
                    refine ld rfl .no Fx.ag5 (.u rfl) (fun _ => Rd.own (.there (.there .here)) (by first | exact wap_f rfl | rfl)) ?_
                    refine .nil ?_
                    refine Wt.one 11 (by kernel_rfl) ?_
                    refine iA rfl .no Fx.ar23 (.u rfl) (.u rfl) (fun _ => by omega) (fun _ => by omega) ?_
                    rw [show 0 + m.level.toNat * 1 = 4 from by rw [hm5]; rfl]
                    refine .nil ?_
                    refine Wt.b1 12 (by kernel_rfl) ?_
                    refine s1v rfl (.u rfl) (.u rfl) .here Fx.sz22 (.there (.there (.there (.there (.there (.there (.there .here))))))) (by show _ < 14; first | decide | omega) (rfl) ?_
                    refine .nil ?_
                    refine Wt.last (by kernel_rfl) ?_
                    refine .blk ?_
                    refine .code ?_
                    refine Wk.rg [0, 1] rfl rfl ?_
                    refine arn (((j + 1) : Nat) : Int) rfl .no (.u rfl) (.u rfl) rfl (fun _ => by omega) (fun _ => wrap_i64 (by omega) (by omega)) ?_
                    refine mv rfl .no (.u rfl) ?_
                    refine .nil ?_
                    refine We.lpo (j + 1, w0, w1, w2, w3, v114, updL L2 4 (L2 4 ++ [m])) ?_ ?_ ?_ ?_ ?_
                    · exact (ESub.cons rfl (by first | rfl | exact evi (by omega)) (ESub.cons rfl rfl (ESub.cons rfl rfl (ESub.cons rfl rfl (ESub.cons rfl rfl ESub.nil)))))
                    · exact (MSub.cons (.there .here) rfl (MSub.cons (.there (.there (.there .here))) rfl (MSub.cons (.there (.there (.there .here))) rfl (MSub.cons (.there (.there (.there .here))) rfl (MSub.cons (.there (.there (.there .here))) rfl (MSub.cons .here rfl (MSub.cons (.there (.there .here)) rfl (MSub.cons (.there (.there .here)) rfl (MSub.cons (.there (.there .here)) rfl MSub.nil)))))))))
                    · first | omega | (dsimp only; omega)
                    · exact hGl2
                    · refine ⟨?_, ?_⟩
                      · (try dsimp only) <;> (first | omega | rfl | assumption | (simp; done))
                      · (try dsimp only) <;> (exact fold_step em hA (addF_hit hm5 (by decide)))
          · have c11k := c11
            try simp only [decide_eq_true_eq, decide_eq_false_iff_not, Int.not_lt, Int.not_le, gt_iff_lt, ge_iff_le, Bool.or_eq_true, Bool.and_eq_true, Bool.or_eq_false_iff, Bool.and_eq_false_iff, Bool.not_eq_true', Bool.not_eq_false', Int.toNat_natCast, bne_iff_ne, beq_iff_eq, bne_eq_false_iff_eq, beq_eq_false_iff_ne, ne_eq] at c11
            refine .exit ?_
            refine .xcode ?_
            refine .xlp ?_
            refine .xblk ?_
            refine .code ?_
            refine .seq ?_
            refine .seq ?_
            refine Wk.rg [0, 1, 2] rfl rfl ?_
            refine fz rfl .no Fx.fo27_0 (.u rfl) ?_
            refine lA rfl .no Fx.ag23 (.u rfl) (fun _ => RdN.part (n := 5) (cs' := [w0, w1, w2, w3, w4]) (.there (.there (.there (.there (.there .here))))) (rfl)) (fun _ => rfl) ?_
            refine mv rfl .no (.u rfl) ?_
            refine .nil ?_
            refine .code ?_
            refine .block ?_
            obtain rfl : j = e.add.length := by omega
            rw [List.take_length] at hA
            have hL2l : ∀ i, i < 5 → (L2 i).length ≤ 2048 := fun i hi => by have := addL_len (N := 1024) hA (i := i) (dropL_len hri' hL hi); omega
            refine Wk.lop (α := Nat × Lvs) (fun gh => [(120, true, .int .i64 (gh.1 : Int))]) (fun gh => [rS 40 Meta.cells w4 48 (gh.2 4), rS 40 Meta.cells w3 48 (gh.2 3), rS 40 Meta.cells w2 48 (gh.2 2), rS 40 Meta.cells w1 48 (gh.2 1), rS 40 Meta.cells w0 48 (gh.2 0)])
              (fun gh Gl => (gh.1 ≤ 5) ∧ (∀ i, gh.2 i = if i < gh.1 then srtL L2 i else L2 i)) (fun gh => 5 - gh.1) (0, L2) [(4, true, _), (6, true, _), (119, true, _)] [_, _, _, _]
              (ESub.cons rfl (by first | rfl | exact evi (by omega)) (ESub.cons rfl rfl (ESub.cons rfl rfl (ESub.cons rfl rfl ESub.nil))))
              (MSub.cons .here rfl (MSub.cons .here rfl (MSub.cons .here rfl (MSub.cons .here rfl (MSub.cons .here rfl (MSub.cons .here rfl (MSub.cons .here rfl (MSub.cons .here rfl (MSub.cons .here rfl MSub.nil))))))))) ?_ ?_
            · refine ⟨?_, ?_⟩
              · (try dsimp only) <;> (first | omega | rfl | assumption | (simp; done))
              · (try dsimp only) <;> (exact fun i => rfl)
            intro gh N3 Gl3 hN3 hGl3 hF3
            obtain ⟨k, M⟩ := gh; dsimp only at hF3 hN3 ⊢
            obtain ⟨hk, hM⟩ := hF3
            have hs := hs.mono hGl3
            have hea := hea.mono hGl3
            have hed := hed.mono hGl3
            refine .seq ?_
            refine Wk.rg [0] rfl rfl ?_
            refine cp rfl .no (.u rfl) (.u rfl) rfl ?_
            refine .nil ?_
            refine .code ?_
            refine .seq ?_
            refine .cond rfl (fun c13 => ?_) (fun c13 => ?_)
            · have c13k := c13
              try simp only [decide_eq_true_eq, decide_eq_false_iff_not, Int.not_lt, Int.not_le, gt_iff_lt, ge_iff_le, Bool.or_eq_true, Bool.and_eq_true, Bool.or_eq_false_iff, Bool.and_eq_false_iff, Bool.not_eq_true', Bool.not_eq_false', Int.toNat_natCast, bne_iff_ne, beq_iff_eq, bne_eq_false_iff_eq, beq_eq_false_iff_ne, ne_eq] at c13
              refine .skip ?_
              refine .code ?_
              refine .seq ?_
              refine .block ?_
              refine .seq ?_
              rcases (show k = 0 ∨ k = 1 ∨ k = 2 ∨ k = 3 ∨ k = 4 by omega) with rfl | rfl | rfl | rfl | rfl
              · refine Wk.rg [0, 1, 2, 3, 4] rfl rfl ?_
                refine mv rfl .no (.u rfl) ?_
                refine ix rfl .no Fx.ar23 Fx.ag22 (.u rfl) (.u rfl) (fun _ => by decide) (fun _ => by decide) (fun _ => rfl) ?_
                refine al rfl Fx.zr3 ?_; intro b14
                refine s1 rfl (.u rfl) (.u rfl) rfl Fx.sz3 .here (by decide) (rfl) ?_
                refine asg rfl .no (.u rfl) ?_
                refine .nil ?_
                refine .code ?_
                refine wk_fz .here (by intro b hb; cases hb) ?_; intro Gfb14 hleb14 hbb14
                have hs := hs.mono hleb14
                have hea := hea.mono hleb14
                have hed := hed.mono hleb14
                refine Wk.rg [0, 1, 2] rfl rfl ?_
                refine mv rfl .no (.u rfl) ?_
                refine mf (vf := #[]) (vc := [Value.pointer (some ⟨b14, 0, none⟩)].toArray) rfl .no (fun a ha _ => by simp) (fun a ha _ => by simp [(Ev.u (c := true) rfl : Ev _ true (.tmp 14) _).eval ha rfl]) ?_
                refine ka rfl (.inr rfl) Fx.go53 (Eva.cons (.u rfl) (Eva.cons (.u rfl) Eva.nil)) (mtk1 (.there (.there (.there (.there .here))))) (ssf_ok (M 0) w0 54 Fx.go54 [.pointer (some ⟨b14, 0, none⟩)] (lvC 0) _ (lvC_cmp 0 b14 hbb14) (lvC_wk 0) (by rw [hM 0, if_neg (by decide)]; have := hL2l 0 (by decide); omega)) ?_
                rintro _ G126 μ126 hG126 ⟨rfl, rfl⟩
                have hs := hs.mono hG126
                have hea := hea.mono hG126
                have hed := hed.mono hG126
                have hbb14 := hbb14.mono hG126
                refine .nil ?_
                refine .blk ?_
                refine .code ?_
                refine Wk.rg [0, 1] rfl rfl ?_
                refine arn (((0 + 1) : Nat) : Int) rfl .no (.u rfl) (.u rfl) rfl (fun _ => by omega) (fun _ => wrap_i64 (by omega) (by omega)) ?_
                refine mv rfl .no (.u rfl) ?_
                refine .nil ?_
                refine We.lpo (1, updL M 0 (sortS (ltv (lvC 0)) (M 0))) ?_ ?_ ?_ ?_ ?_
                · exact (ESub.cons rfl (by first | rfl | exact evi (by omega)) (ESub.cons rfl rfl (ESub.cons rfl rfl (ESub.cons rfl rfl ESub.nil))))
                · exact (MSub.cons (.there .here) rfl (MSub.cons (.there .here) rfl (MSub.cons (.there .here) rfl (MSub.cons (.there .here) rfl (MSub.cons .here rfl (MSub.cons .here rfl (MSub.cons .here rfl (MSub.cons .here rfl (MSub.cons .here rfl MSub.nil)))))))))
                · first | omega | (dsimp only; omega)
                · exact ((hGl3).trans hleb14).trans hG126
                · refine ⟨?_, ?_⟩
                  · (try dsimp only) <;> (first | omega | rfl | assumption | (simp; done))
                  · (try dsimp only) <;> (exact srt_step5 hM)
              · refine Wk.rg [0, 1, 2, 3, 4] rfl rfl ?_
                refine mv rfl .no (.u rfl) ?_
                refine ix rfl .no Fx.ar23 Fx.ag22 (.u rfl) (.u rfl) (fun _ => by decide) (fun _ => by decide) (fun _ => rfl) ?_
                refine al rfl Fx.zr3 ?_; intro b14
                refine s1 rfl (.u rfl) (.u rfl) rfl Fx.sz3 .here (by decide) (rfl) ?_
                refine asg rfl .no (.u rfl) ?_
                refine .nil ?_
                refine .code ?_
                refine wk_fz .here (by intro b hb; cases hb) ?_; intro Gfb14 hleb14 hbb14
                have hs := hs.mono hleb14
                have hea := hea.mono hleb14
                have hed := hed.mono hleb14
                refine Wk.rg [0, 1, 2] rfl rfl ?_
                refine mv rfl .no (.u rfl) ?_
                refine mf (vf := #[]) (vc := [Value.pointer (some ⟨b14, 0, none⟩)].toArray) rfl .no (fun a ha _ => by simp) (fun a ha _ => by simp [(Ev.u (c := true) rfl : Ev _ true (.tmp 14) _).eval ha rfl]) ?_
                refine ka rfl (.inr rfl) Fx.go53 (Eva.cons (.u rfl) (Eva.cons (.u rfl) Eva.nil)) (mtk1 (.there (.there (.there .here)))) (ssf_ok (M 1) w1 54 Fx.go54 [.pointer (some ⟨b14, 0, none⟩)] (lvC 1) _ (lvC_cmp 1 b14 hbb14) (lvC_wk 1) (by rw [hM 1, if_neg (by decide)]; have := hL2l 1 (by decide); omega)) ?_
                rintro _ G126 μ126 hG126 ⟨rfl, rfl⟩
                have hs := hs.mono hG126
                have hea := hea.mono hG126
                have hed := hed.mono hG126
                have hbb14 := hbb14.mono hG126
                refine .nil ?_
                refine .blk ?_
                refine .code ?_
                refine Wk.rg [0, 1] rfl rfl ?_
                refine arn (((1 + 1) : Nat) : Int) rfl .no (.u rfl) (.u rfl) rfl (fun _ => by omega) (fun _ => wrap_i64 (by omega) (by omega)) ?_
                refine mv rfl .no (.u rfl) ?_
                refine .nil ?_
                refine We.lpo (2, updL M 1 (sortS (ltv (lvC 1)) (M 1))) ?_ ?_ ?_ ?_ ?_
                · exact (ESub.cons rfl (by first | rfl | exact evi (by omega)) (ESub.cons rfl rfl (ESub.cons rfl rfl (ESub.cons rfl rfl ESub.nil))))
                · exact (MSub.cons (.there .here) rfl (MSub.cons (.there .here) rfl (MSub.cons (.there .here) rfl (MSub.cons .here rfl (MSub.cons .here rfl (MSub.cons .here rfl (MSub.cons .here rfl (MSub.cons .here rfl (MSub.cons .here rfl MSub.nil)))))))))
                · first | omega | (dsimp only; omega)
                · exact ((hGl3).trans hleb14).trans hG126
                · refine ⟨?_, ?_⟩
                  · (try dsimp only) <;> (first | omega | rfl | assumption | (simp; done))
                  · (try dsimp only) <;> (exact srt_step5 hM)
              · refine Wk.rg [0, 1, 2, 3, 4] rfl rfl ?_
                refine mv rfl .no (.u rfl) ?_
                refine ix rfl .no Fx.ar23 Fx.ag22 (.u rfl) (.u rfl) (fun _ => by decide) (fun _ => by decide) (fun _ => rfl) ?_
                refine al rfl Fx.zr3 ?_; intro b14
                refine s1 rfl (.u rfl) (.u rfl) rfl Fx.sz3 .here (by decide) (rfl) ?_
                refine asg rfl .no (.u rfl) ?_
                refine .nil ?_
                refine .code ?_
                refine wk_fz .here (by intro b hb; cases hb) ?_; intro Gfb14 hleb14 hbb14
                have hs := hs.mono hleb14
                have hea := hea.mono hleb14
                have hed := hed.mono hleb14
                refine Wk.rg [0, 1, 2] rfl rfl ?_
                refine mv rfl .no (.u rfl) ?_
                refine mf (vf := #[]) (vc := [Value.pointer (some ⟨b14, 0, none⟩)].toArray) rfl .no (fun a ha _ => by simp) (fun a ha _ => by simp [(Ev.u (c := true) rfl : Ev _ true (.tmp 14) _).eval ha rfl]) ?_
                refine ka rfl (.inr rfl) Fx.go53 (Eva.cons (.u rfl) (Eva.cons (.u rfl) Eva.nil)) (mtk1 (.there (.there .here))) (ssf_ok (M 2) w2 54 Fx.go54 [.pointer (some ⟨b14, 0, none⟩)] (lvC 2) _ (lvC_cmp 2 b14 hbb14) (lvC_wk 2) (by rw [hM 2, if_neg (by decide)]; have := hL2l 2 (by decide); omega)) ?_
                rintro _ G126 μ126 hG126 ⟨rfl, rfl⟩
                have hs := hs.mono hG126
                have hea := hea.mono hG126
                have hed := hed.mono hG126
                have hbb14 := hbb14.mono hG126
                refine .nil ?_
                refine .blk ?_
                refine .code ?_
                refine Wk.rg [0, 1] rfl rfl ?_
                refine arn (((2 + 1) : Nat) : Int) rfl .no (.u rfl) (.u rfl) rfl (fun _ => by omega) (fun _ => wrap_i64 (by omega) (by omega)) ?_
                refine mv rfl .no (.u rfl) ?_
                refine .nil ?_
                refine We.lpo (3, updL M 2 (sortS (ltv (lvC 2)) (M 2))) ?_ ?_ ?_ ?_ ?_
                · exact (ESub.cons rfl (by first | rfl | exact evi (by omega)) (ESub.cons rfl rfl (ESub.cons rfl rfl (ESub.cons rfl rfl ESub.nil))))
                · exact (MSub.cons (.there .here) rfl (MSub.cons (.there .here) rfl (MSub.cons .here rfl (MSub.cons .here rfl (MSub.cons .here rfl (MSub.cons .here rfl (MSub.cons .here rfl (MSub.cons .here rfl (MSub.cons .here rfl MSub.nil)))))))))
                · first | omega | (dsimp only; omega)
                · exact ((hGl3).trans hleb14).trans hG126
                · refine ⟨?_, ?_⟩
                  · (try dsimp only) <;> (first | omega | rfl | assumption | (simp; done))
                  · (try dsimp only) <;> (exact srt_step5 hM)
              · refine Wk.rg [0, 1, 2, 3, 4] rfl rfl ?_
                refine mv rfl .no (.u rfl) ?_
                refine ix rfl .no Fx.ar23 Fx.ag22 (.u rfl) (.u rfl) (fun _ => by decide) (fun _ => by decide) (fun _ => rfl) ?_
                refine al rfl Fx.zr3 ?_; intro b14
                refine s1 rfl (.u rfl) (.u rfl) rfl Fx.sz3 .here (by decide) (rfl) ?_
                refine asg rfl .no (.u rfl) ?_
                refine .nil ?_
                refine .code ?_
                refine wk_fz .here (by intro b hb; cases hb) ?_; intro Gfb14 hleb14 hbb14
                have hs := hs.mono hleb14
                have hea := hea.mono hleb14
                have hed := hed.mono hleb14
                refine Wk.rg [0, 1, 2] rfl rfl ?_
                refine mv rfl .no (.u rfl) ?_
                refine mf (vf := #[]) (vc := [Value.pointer (some ⟨b14, 0, none⟩)].toArray) rfl .no (fun a ha _ => by simp) (fun a ha _ => by simp [(Ev.u (c := true) rfl : Ev _ true (.tmp 14) _).eval ha rfl]) ?_
                refine ka rfl (.inr rfl) Fx.go53 (Eva.cons (.u rfl) (Eva.cons (.u rfl) Eva.nil)) (mtk1 (.there .here)) (ssf_ok (M 3) w3 54 Fx.go54 [.pointer (some ⟨b14, 0, none⟩)] (lvC 3) _ (lvC_cmp 3 b14 hbb14) (lvC_wk 3) (by rw [hM 3, if_neg (by decide)]; have := hL2l 3 (by decide); omega)) ?_
                rintro _ G126 μ126 hG126 ⟨rfl, rfl⟩
                have hs := hs.mono hG126
                have hea := hea.mono hG126
                have hed := hed.mono hG126
                have hbb14 := hbb14.mono hG126
                refine .nil ?_
                refine .blk ?_
                refine .code ?_
                refine Wk.rg [0, 1] rfl rfl ?_
                refine arn (((3 + 1) : Nat) : Int) rfl .no (.u rfl) (.u rfl) rfl (fun _ => by omega) (fun _ => wrap_i64 (by omega) (by omega)) ?_
                refine mv rfl .no (.u rfl) ?_
                refine .nil ?_
                refine We.lpo (4, updL M 3 (sortS (ltv (lvC 3)) (M 3))) ?_ ?_ ?_ ?_ ?_
                · exact (ESub.cons rfl (by first | rfl | exact evi (by omega)) (ESub.cons rfl rfl (ESub.cons rfl rfl (ESub.cons rfl rfl ESub.nil))))
                · exact (MSub.cons (.there .here) rfl (MSub.cons .here rfl (MSub.cons .here rfl (MSub.cons .here rfl (MSub.cons .here rfl (MSub.cons .here rfl (MSub.cons .here rfl (MSub.cons .here rfl (MSub.cons .here rfl MSub.nil)))))))))
                · first | omega | (dsimp only; omega)
                · exact ((hGl3).trans hleb14).trans hG126
                · refine ⟨?_, ?_⟩
                  · (try dsimp only) <;> (first | omega | rfl | assumption | (simp; done))
                  · (try dsimp only) <;> (exact srt_step5 hM)
              · refine Wk.rg [0, 1, 2, 3, 4] rfl rfl ?_
                refine mv rfl .no (.u rfl) ?_
                refine ix rfl .no Fx.ar23 Fx.ag22 (.u rfl) (.u rfl) (fun _ => by decide) (fun _ => by decide) (fun _ => rfl) ?_
                refine al rfl Fx.zr3 ?_; intro b14
                refine s1 rfl (.u rfl) (.u rfl) rfl Fx.sz3 .here (by decide) (rfl) ?_
                refine asg rfl .no (.u rfl) ?_
                refine .nil ?_
                refine .code ?_
                refine wk_fz .here (by intro b hb; cases hb) ?_; intro Gfb14 hleb14 hbb14
                have hs := hs.mono hleb14
                have hea := hea.mono hleb14
                have hed := hed.mono hleb14
                refine Wk.rg [0, 1, 2] rfl rfl ?_
                refine mv rfl .no (.u rfl) ?_
                refine mf (vf := #[]) (vc := [Value.pointer (some ⟨b14, 0, none⟩)].toArray) rfl .no (fun a ha _ => by simp) (fun a ha _ => by simp [(Ev.u (c := true) rfl : Ev _ true (.tmp 14) _).eval ha rfl]) ?_
                refine ka rfl (.inr rfl) Fx.go53 (Eva.cons (.u rfl) (Eva.cons (.u rfl) Eva.nil)) (mtk1 .here) (ssf_ok (M 4) w4 54 Fx.go54 [.pointer (some ⟨b14, 0, none⟩)] (lvC 4) _ (lvC_cmp 4 b14 hbb14) (lvC_wk 4) (by rw [hM 4, if_neg (by decide)]; have := hL2l 4 (by decide); omega)) ?_
                rintro _ G126 μ126 hG126 ⟨rfl, rfl⟩
                have hs := hs.mono hG126
                have hea := hea.mono hG126
                have hed := hed.mono hG126
                have hbb14 := hbb14.mono hG126
                refine .nil ?_
                refine .blk ?_
                refine .code ?_
                refine Wk.rg [0, 1] rfl rfl ?_
                refine arn (((4 + 1) : Nat) : Int) rfl .no (.u rfl) (.u rfl) rfl (fun _ => by omega) (fun _ => wrap_i64 (by omega) (by omega)) ?_
                refine mv rfl .no (.u rfl) ?_
                refine .nil ?_
                refine We.lpo (5, updL M 4 (sortS (ltv (lvC 4)) (M 4))) ?_ ?_ ?_ ?_ ?_
                · exact (ESub.cons rfl (by first | rfl | exact evi (by omega)) (ESub.cons rfl rfl (ESub.cons rfl rfl (ESub.cons rfl rfl ESub.nil))))
                · exact (MSub.cons .here rfl (MSub.cons .here rfl (MSub.cons .here rfl (MSub.cons .here rfl (MSub.cons .here rfl (MSub.cons .here rfl (MSub.cons .here rfl (MSub.cons .here rfl (MSub.cons .here rfl MSub.nil)))))))))
                · first | omega | (dsimp only; omega)
                · exact ((hGl3).trans hleb14).trans hG126
                · refine ⟨?_, ?_⟩
                  · (try dsimp only) <;> (first | omega | rfl | assumption | (simp; done))
                  · (try dsimp only) <;> (exact srt_step5 hM)
            · have c13k := c13
              try simp only [decide_eq_true_eq, decide_eq_false_iff_not, Int.not_lt, Int.not_le, gt_iff_lt, ge_iff_le, Bool.or_eq_true, Bool.and_eq_true, Bool.or_eq_false_iff, Bool.and_eq_false_iff, Bool.not_eq_true', Bool.not_eq_false', Int.toNat_natCast, bne_iff_ne, beq_iff_eq, bne_eq_false_iff_eq, beq_eq_false_iff_ne, ne_eq] at c13
              refine .exit ?_
              refine .xcode ?_
              refine .xlp ?_
              refine .xblk ?_
              refine .code ?_
              refine .seq ?_
              refine .seq ?_
              obtain rfl : k = 5 := by omega
              rw [show M 0 = srtL L2 0 from by rw [hM]; rfl, show M 1 = srtL L2 1 from by rw [hM]; rfl, show M 2 = srtL L2 2 from by rw [hM]; rfl, show M 3 = srtL L2 3 from by rw [hM]; rfl, show M 4 = srtL L2 4 from by rw [hM]; rfl]
              refine wk_fs (.there (.there (.there (.there .here)))) (fun _ _ => rfl) (by intro b hb; cases hb) ?_; intro GfR0 hR0 hleR0 evR0 hsR0; subst evR0
              have hs := hs.mono hleR0
              have hea := hea.mono hleR0
              have hed := hed.mono hleR0
              refine wk_fs (.there (.there (.there .here))) (fun _ _ => rfl) (by intro b hb; cases hb) ?_; intro GfR1 hR1 hleR1 evR1 hsR1; subst evR1
              have hs := hs.mono hleR1
              have hea := hea.mono hleR1
              have hed := hed.mono hleR1
              have hsR0 := hsR0.mono hleR1
              refine wk_fs (.there (.there .here)) (fun _ _ => rfl) (by intro b hb; cases hb) ?_; intro GfR2 hR2 hleR2 evR2 hsR2; subst evR2
              have hs := hs.mono hleR2
              have hea := hea.mono hleR2
              have hed := hed.mono hleR2
              have hsR0 := hsR0.mono hleR2
              have hsR1 := hsR1.mono hleR2
              refine wk_fs (.there .here) (fun _ _ => rfl) (by intro b hb; cases hb) ?_; intro GfR3 hR3 hleR3 evR3 hsR3; subst evR3
              have hs := hs.mono hleR3
              have hea := hea.mono hleR3
              have hed := hed.mono hleR3
              have hsR0 := hsR0.mono hleR3
              have hsR1 := hsR1.mono hleR3
              have hsR2 := hsR2.mono hleR3
              refine wk_fs .here (fun _ _ => rfl) (by intro b hb; cases hb) ?_; intro GfR4 hR4 hleR4 evR4 hsR4; subst evR4
              have hs := hs.mono hleR4
              have hea := hea.mono hleR4
              have hed := hed.mono hleR4
              have hsR0 := hsR0.mono hleR4
              have hsR1 := hsR1.mono hleR4
              have hsR2 := hsR2.mono hleR4
              have hsR3 := hsR3.mono hleR4
              rw [xC_cells (e := e) (L := srtL L2)]
              have hXR := stR5 (X := (mkX e (srtL L2))) hsR0 hsR1 hsR2 hsR3 hsR4 (fun i hi => by show (srtL L2 i).length ≤ _; rw [srtL_len]; have := hL2l i hi; omega) (fun i hi m hm => addL_wf (dropL_wf hs.wf hL) hE.wf.add hA i hi m (srtL_mem.1 hm))
              refine Wk.rg [0, 1, 2] rfl rfl ?_
              refine lA rfl .no Fx.ag27 (.u rfl) (fun _ => RdN.own .here) (fun _ => (by first | exact State.len | exact State.len.trans State.len.symm | exact Edit.len | exact Edit.len.trans Edit.len.symm | exact nine2_len | exact nine2_len.trans State.len.symm | rfl)) ?_
              refine kv rfl .no Fx.go12 (Eva.cons (.u rfl) Eva.nil) (fun _ => vRight_ok (mkX e (srtL L2)) (hx5 hR0 hR1 hR2 hR3 hR4) _ hXR) ?_
              refine nt rfl .no (.u rfl) ?_
              refine .nil ?_
              refine .code ?_
              refine .cond rfl (fun c14 => ?_) (fun c14 => ?_)
              · have c14k := c14
                try simp only [decide_eq_true_eq, decide_eq_false_iff_not, Int.not_lt, Int.not_le, gt_iff_lt, ge_iff_le, Bool.or_eq_true, Bool.and_eq_true, Bool.or_eq_false_iff, Bool.and_eq_false_iff, Bool.not_eq_true', Bool.not_eq_false', Int.toNat_natCast, bne_iff_ne, beq_iff_eq, bne_eq_false_iff_eq, beq_eq_false_iff_ne, ne_eq] at c14
                refine .seq ?_
                refine Wk.rg [0, 1, 2] rfl rfl ?_
                refine bC rfl .no Fx.bp27_ .nil rfl ?_
                refine sw rfl (.u rfl) (.u rfl) rfl Fx.sz27 (.there .here) (by first | exact State.len | exact State.len.trans State.len.symm | exact Edit.len | exact Edit.len.trans Edit.len.symm | exact nine2_len | exact nine2_len.trans State.len.symm | rfl) (State.one') ?_
                refine asg rfl .no (.u rfl) ?_
                refine .nil ?_
                refine .code ?_
                refine .ret ?_
                refine We.fin0 Try.results20 (.cell rfl (fun w hw => run_loadVarN Fx.ag27 (RdN.own .here) ((by first | exact State.len | exact State.len.trans State.len.symm | exact Edit.len | exact Edit.len.trans Edit.len.symm | exact nine2_len | exact nine2_len.trans State.len.symm | rfl)) hw) (.tmp rfl .nil)) ?_
                exact ⟨State.zero, hd0, 180, .inr (.inl ⟨hri, by rw [ap_end hok hL hA]; exact chk_no (EqS.refl _) (by assumption), rfl, rfl⟩), rfl, rfl, st_zero⟩
              · have c14k := c14
                try simp only [decide_eq_true_eq, decide_eq_false_iff_not, Int.not_lt, Int.not_le, gt_iff_lt, ge_iff_le, Bool.or_eq_true, Bool.and_eq_true, Bool.or_eq_false_iff, Bool.and_eq_false_iff, Bool.not_eq_true', Bool.not_eq_false', Int.toNat_natCast, bne_iff_ne, beq_iff_eq, bne_eq_false_iff_eq, beq_eq_false_iff_ne, ne_eq] at c14
                refine .skip ?_
                refine .code ?_
                refine .seq ?_
                refine Wk.rg [0, 1, 2] rfl rfl ?_
                refine lA rfl .no Fx.ag27 (.u rfl) (fun _ => RdN.own .here) (fun _ => (by first | exact State.len | exact State.len.trans State.len.symm | exact Edit.len | exact Edit.len.trans Edit.len.symm | exact nine2_len | exact nine2_len.trans State.len.symm | rfl)) ?_
                refine sw rfl (.u rfl) (.u rfl) rfl Fx.sz27 (.there .here) (by first | exact State.len | exact State.len.trans State.len.symm | exact Edit.len | exact Edit.len.trans Edit.len.symm | exact nine2_len | exact nine2_len.trans State.len.symm | rfl) (State.one') ?_
                refine asg rfl .no (.u rfl) ?_
                refine .nil ?_
                refine .code ?_
                refine .ret ?_
                refine We.fin0 Try.results20 (.cell rfl (fun w hw => run_loadVarN Fx.ag27 (RdN.own .here) ((by first | exact State.len | exact State.len.trans State.len.symm | exact Edit.len | exact Edit.len.trans Edit.len.symm | exact nine2_len | exact nine2_len.trans State.len.symm | rfl)) hw) (.tmp rfl .nil)) ?_
                exact ⟨(mkX e (srtL L2)), (hx5 hR0 hR1 hR2 hR3 hR4), 0, .inr (.inr ⟨hri, rfl, _, by rw [ap_end hok hL hA]; exact chk_eq (EqS.refl _) (by assumption), EqS.refl _⟩), rfl, rfl, hXR⟩

end Go.Proofs.Ytnhdaaggkdegpaa

namespace Go.Tan
open Go.RowKit
abbrev Shs := Nat → Sh
def updS (S : Shs) (k : Nat) (h : Sh) : Shs := fun i => if i = k then h else S i
structure LvR (G : PM) (S : Shs) (L : Lvs) (n : Nat) : Prop where
  lv : ∀ i, i < n → SlR G 40 Meta.cells (S i) (L i)
theorem LvR.mono {G G' : PM} {S : Shs} {L : Lvs} {n : Nat} (h : LvR G S L n) (hle : PM.le G G') : LvR G' S L n := ⟨fun i hi => (h.lv i hi).mono hle⟩
theorem LvR.upd {G : PM} {S : Shs} {L : Lvs} {n k : Nat} {hh : Sh} {l : List Meta} (h : LvR G S L n) (hs : SlR G 40 Meta.cells hh l) : LvR G (updS S k hh) (updL L k l) n := ⟨fun i hi => by
  unfold updS updL
  by_cases e : i = k
  · rw [if_pos e, if_pos e]; exact hs
  · rw [if_neg e, if_neg e]; exact h.lv i hi⟩
theorem LvR.next {G : PM} {S : Shs} {L : Lvs} {k : Nat} {hh : Sh} {l : List Meta} (h : LvR G S L k) (hs : SlR G 40 Meta.cells hh l) : LvR G (updS S k hh) (updL L k l) (k + 1) := ⟨fun i hi => by
  unfold updS updL
  by_cases e : i = k
  · rw [if_pos e, if_pos e]; exact hs
  · rw [if_neg e, if_neg e]; exact h.lv i (by omega)⟩
theorem cells_set {e : Edit} {L : Lvs} {S : Shs} {k q : Nat} {hh : Sh} {l : List Meta} (hk : k < 5) (hq : q = k) : ((mkX e L).cells S).set q (hh.val l.length) = (mkX e (updL L k l)).cells (updS S k hh) := by
  subst hq
  match q, hk with
  | 0, _ => rfl | 1, _ => rfl | 2, _ => rfl | 3, _ => rfl | 4, _ => rfl
theorem cells_congr {e : Edit} {L L' : Lvs} {S : Shs} (h : ∀ i, i < 5 → L i = L' i) : (mkX e L).cells S = (mkX e L').cells S := by
  unfold State.cells mkX
  congr 2
  exact List.map_congr_left fun i hi => by simp only [h i (List.mem_range.1 hi)]
theorem LvR.congr {G : PM} {S : Shs} {L L' : Lvs} {n : Nat} (h : LvR G S L n) (e : ∀ i, i < n → L i = L' i) : LvR G S L' n := ⟨fun i hi => by rw [← e i hi]; exact h.lv i hi⟩
theorem Edit.cell_gen (e : Edit) (ha hd : Sh) {k : Nat} (h : k < 5) : (e.cells ha hd)[4 + k * 1]? = some (.int .u64 (e.gens k)) := by
  match k, h with
  | 0, _ => rfl | 1, _ => rfl | 2, _ => rfl | 3, _ => rfl | 4, _ => rfl
def okBase (s : State) (e : Edit) : Bool := ((((decide (e.log ≥ s.log) && decide (e.next ≥ s.next)) && decide (e.seq ≥ s.seq)) && decide (e.least ≥ s.least)) && decide ((e.add.length : Int) ≤ 1024)) && decide ((e.drop.length : Int) ≤ 1024)
def okU (s : State) (e : Edit) : Nat → Bool
  | 0 => okBase s e
  | k + 1 => okU s e k && decide (e.gens k ≥ s.gens k)
theorem okU_all {s : State} {e : Edit} : ∀ {k : Nat}, okU s e k = true ↔ okBase s e = true ∧ ∀ i, i < k → ¬ e.gens i < s.gens i
  | 0 => by simp [okU]
  | k + 1 => by
    simp only [okU, Bool.and_eq_true, okU_all (k := k), decide_eq_true_eq]
    constructor
    · rintro ⟨⟨h1, h2⟩, h3⟩
      exact ⟨h1, fun i hi => by
        by_cases e : i = k
        · subst e; omega
        · exact h2 i (by omega)⟩
    · rintro ⟨h1, h2⟩
      exact ⟨⟨h1, fun i hi => h2 i (by omega)⟩, by have := h2 k (by omega); omega⟩
theorem okU_okB {s : State} {e : Edit} : okU s e 5 = okB s e := by
  cases h : okU s e 5 with
  | true =>
    obtain ⟨h1, h2⟩ := okU_all.1 h
    unfold okBase at h1
    simp only [Bool.and_eq_true, decide_eq_true_eq] at h1
    obtain ⟨⟨⟨⟨⟨a1, a2⟩, a3⟩, a4⟩, a5⟩, a6⟩ := h1
    unfold okB
    rw [bef_no h2, decide_eq_true a5, decide_eq_true a6, decide_eq_false (by omega), decide_eq_false (by omega), decide_eq_false (by omega), decide_eq_false (by omega)]; rfl
  | false =>
    cases h' : okB s e with
    | false => rfl
    | true =>
      unfold okB at h'
      simp only [Bool.and_eq_true, Bool.not_eq_true', decide_eq_true_eq] at h'
      obtain ⟨b1, b2, b3⟩ := h'
      have hg : ∀ i, i < 5 → ¬ e.gens i < s.gens i := fun i hi hc => by rw [bef_yes hi hc] at b1; cases b1
      rw [bef_no hg] at b1
      simp only [Bool.or_eq_false_iff, decide_eq_false_iff_not] at b1
      have : okU s e 5 = true := okU_all.2 ⟨by
        unfold okBase
        simp only [Bool.and_eq_true, decide_eq_true_eq]
        omega, hg⟩
      rw [h] at this; cases this
/-- where a level's table is put -/
theorem ins_at {lt : Meta → Meta → Bool} {l : List Meta} {m : Meta} {k : Nat} (hk : k ≤ l.length) (h1 : ∀ j, j < k → lt m (l.getD j Meta.zero) = false) (h2 : k = l.length ∨ lt m (l.getD k Meta.zero) = true) : insS lt l m = l.take k ++ m :: l.drop k := by
  have ht : l.takeWhile (fun x => !lt m x) = l.take k ∧ l.dropWhile (fun x => !lt m x) = l.drop k := by
    clear hk
    induction l generalizing k with
    | nil => simp
    | cons x l ih =>
      cases k with
      | zero =>
        rcases h2 with h2 | h2
        · simp at h2
        · have : lt m x = true := by simpa using h2
          simp [List.takeWhile, List.dropWhile, this]
      | succ k =>
        have h0 : lt m x = false := by simpa using h1 0 (by omega)
        obtain ⟨a, b⟩ := ih (k := k) (fun j hj => by simpa using h1 (j + 1) (by omega)) (by
          rcases h2 with h2 | h2
          · left; simpa using h2
          · right; simpa using h2)
        simp [List.takeWhile, List.dropWhile, h0, a, b]
  unfold insS
  rw [ht.1, ht.2]
theorem placed_c {level : Int} {m x : Meta} (h0 : 0 ≤ level) : (((level == 0) && decide (x.number ≥ m.number)) || (decide (level > 0) && (Op.bytesLess x.min.toList m.min.toList || x.min.toList == m.min.toList))) = !lvLt level m x := by
  unfold lvLt
  by_cases h : level = 0
  · subst h
    simp only [beq_self_eq_true, Bool.true_and, if_true, show decide ((0 : Int) > 0) = false from rfl, Bool.false_and, Bool.or_false]
    by_cases h2 : x.number < m.number
    · rw [decide_eq_true h2, decide_eq_false (by omega)]; rfl
    · rw [decide_eq_false h2, decide_eq_true (by omega)]; rfl
  · rw [if_neg h, show (level == 0) = false from by simpa using h, Bool.false_and, Bool.false_or, decide_eq_true (show level > 0 by omega), Bool.true_and]
    exact le_not x.min m.min
theorem insF_hit {m : Meta} {L : Lvs} (h : m.level < 5) : insF m L = some (updL L m.level.toNat (insS (lvLt m.level) (L m.level.toNat) m)) := by unfold insF; rw [if_pos h]
theorem insF_high {m : Meta} {L : Lvs} (h : 5 ≤ m.level) : insF m L = none := by unfold insF; rw [if_neg (by omega)]
theorem dropF_ok {g : Gone} {L : Lvs} {k : Nat} (h : g.level < 5) (hk : idxI (isN g) (L g.level.toNat) = (k : Int)) : dropF g L = some (updL L g.level.toNat ((L g.level.toNat).take k ++ (L g.level.toNat).drop (k + 1))) := by
  unfold dropF
  rw [if_pos h, hk, if_neg (by omega), Int.toNat_natCast]
theorem dropF_non {g : Gone} {L : Lvs} (hk : idxI (isN g) (L g.level.toNat) < 0) : dropF g L = none := by
  unfold dropF
  split <;> first | rfl | rw [if_pos hk]
/-- what is left of a list without one -/
def WithoutR (g : Gone) (l L : List Meta) (ok : Bool) : Prop := (ok = false ∧ L = [] ∧ idxI (isN g) l < 0) ∨ (ok = true ∧ ∃ k : Nat, idxI (isN g) l = (k : Int) ∧ k < l.length ∧ L = l.take k ++ l.drop (k + 1))
theorem WithoutR.len {g : Gone} {l L : List Meta} {ok : Bool} (h : WithoutR g l L ok) : L.length ≤ l.length := by
  rcases h with ⟨_, rfl, _⟩ | ⟨_, k, _, hk, rfl⟩
  · simp
  · simp; omega
/-- the way of the document, up to so many -/
def RefT (s : State) (e : Edit) (f : Option Lvs) (L : Lvs) (ok : Bool) : Prop := (ok = true ∧ okB s e = true ∧ f = some L) ∨ (ok = false ∧ applyO s e = none)
theorem RefT.start {s : State} {e : Edit} {ok : Bool} {f : Option Lvs} {L : Lvs} (h : ok = okU s e 5) (hf : f = some L) : RefT s e f L ok := by
  rw [okU_okB] at h
  cases hk : okB s e with
  | true => exact .inl ⟨by rw [h, hk], hk, hf⟩
  | false => exact .inr ⟨by rw [h, hk], ap_not hk⟩
theorem RefT.drop {s : State} {e : Edit} {g : Gone} {j : Nat} {L : Lvs} {l : List Meta} {ok : Bool} (h : RefT s e (foldO dropF (e.drop.take j) s.lv) L true) (eg : e.drop[j]? = some g) (h5 : g.level < 5) (hw : WithoutR g (L g.level.toNat) l ok) : RefT s e (foldO dropF (e.drop.take (j + 1)) s.lv) (updL L g.level.toNat l) ok := by
  rcases h with ⟨_, h1, h2⟩ | ⟨h, _⟩
  · rcases hw with ⟨rfl, _, hn⟩ | ⟨rfl, k, hk, _, rfl⟩
    · exact .inr ⟨rfl, ap_drop (fold_stop eg h2 (dropF_non hn))⟩
    · exact .inl ⟨rfl, h1, fold_step eg h2 (dropF_ok h5 hk)⟩
  · cases h
theorem RefT.dropX {s : State} {e : Edit} {g : Gone} {j : Nat} {L L' : Lvs} {f : Option Lvs} (h : RefT s e (foldO dropF (e.drop.take j) s.lv) L true) (eg : e.drop[j]? = some g) (h5 : 5 ≤ g.level) : RefT s e f L' false := by
  rcases h with ⟨_, h1, h2⟩ | ⟨h, _⟩
  · exact .inr ⟨rfl, ap_drop (fold_stop eg h2 (dropF_high h5))⟩
  · cases h
theorem okB_bd {s : State} {e : Edit} (h : okB s e = true) : e.add.length ≤ 1024 ∧ e.drop.length ≤ 1024 := by
  unfold okB at h
  simp only [Bool.and_eq_true, decide_eq_true_eq] at h
  omega
theorem RefT.bd {s : State} {e : Edit} {f : Option Lvs} {L : Lvs} (h : RefT s e f L true) : e.add.length ≤ 1024 ∧ e.drop.length ≤ 1024 := by
  rcases h with ⟨_, h, _⟩ | ⟨h, _⟩
  · exact okB_bd h
  · cases h
structure RefA (s : State) (e : Edit) (j : Nat) (L : Lvs) (ok : Bool) : Prop where
  out : (ok = true ∧ okB s e = true ∧ ∃ L1, foldO dropF e.drop s.lv = some L1 ∧ foldO insF (e.add.take j) L1 = some L) ∨ (ok = false ∧ applyO s e = none)
theorem RefA.start {s : State} {e : Edit} {L : Lvs} {ok : Bool} (h : RefT s e (foldO dropF e.drop s.lv) L ok) : RefA s e 0 L ok := by
  rcases h with ⟨rfl, h1, h2⟩ | ⟨rfl, h⟩
  · exact ⟨.inl ⟨rfl, h1, L, h2, rfl⟩⟩
  · exact ⟨.inr ⟨rfl, h⟩⟩
theorem RefA.bd {s : State} {e : Edit} {j : Nat} {L : Lvs} (h : RefA s e j L true) : e.add.length ≤ 1024 ∧ e.drop.length ≤ 1024 := by
  rcases h.out with ⟨_, h, _⟩ | ⟨h, _⟩
  · exact okB_bd h
  · cases h
theorem RefA.add {s : State} {e : Edit} {m : Meta} {j : Nat} {L : Lvs} (h : RefA s e j L true) (em : e.add[j]? = some m) (h5 : m.level < 5) : RefA s e (j + 1) (updL L m.level.toNat (insS (lvLt m.level) (L m.level.toNat) m)) true := by
  rcases h.out with ⟨_, h1, L1, h2, h3⟩ | ⟨h, _⟩
  · exact ⟨.inl ⟨rfl, h1, L1, h2, fold_step em h3 (insF_hit h5)⟩⟩
  · cases h
theorem RefA.addX {s : State} {e : Edit} {m : Meta} {j : Nat} {L L' : Lvs} (h : RefA s e j L true) (em : e.add[j]? = some m) (h5 : 5 ≤ m.level) : RefA s e (j + 1) L' false := by
  rcases h.out with ⟨_, h1, L1, h2, h3⟩ | ⟨h, _⟩
  · exact ⟨.inr ⟨rfl, ap_add h2 ((add_ins_none (L' := L1)).2 (fold_stop em h3 (insF_high h5)))⟩⟩
  · cases h
theorem RefA.end' {s : State} {e : Edit} {j : Nat} {L : Lvs} (h : RefA s e j L true) (hr : RightP s) (hm : ∀ m ∈ e.add, 0 ≤ m.level) (hj : e.add.length ≤ j) : ∃ L1 L2, foldO dropF e.drop s.lv = some L1 ∧ foldO addF e.add L1 = some L2 ∧ applyO s e = chk (mkX e (srtL L2)) ∧ EqS (mkX e L) (mkX e (srtL L2)) := by
  rcases h.out with ⟨_, h1, L1, h2, h3⟩ | ⟨h, _⟩
  · rw [List.take_of_length_le hj] at h3
    obtain ⟨L2, h4⟩ := ins_some h3
    exact ⟨L1, L2, h2, h4, ap_end h1 h2 h4, fun i hi => ins_sort hr h2 h4 hm h3 hi, rfl, rfl, rfl, rfl, rfl⟩
  · cases h
theorem RefA.no {s : State} {e : Edit} {j : Nat} {L : Lvs} (h : RefA s e j L false) : applyO s e = none := by
  rcases h.out with ⟨h, _⟩ | ⟨_, h⟩
  · cases h
  · exact h
theorem upd_len {Lf : Lvs} {q : Nat} {l : List Meta} {N : Nat} (h : ∀ i, i < 5 → (Lf i).length ≤ N) (hl : l.length ≤ (Lf q).length) : ∀ i, i < 5 → (updL Lf q l i).length ≤ N := by
  intro i hi
  by_cases e : i = q
  · subst e; rw [updL_same]; exact Nat.le_trans hl (h i hi)
  · rw [updL_other e]; exact h i hi
theorem upd_wf {Lf : Lvs} {g : Gone} {l : List Meta} {ok : Bool} (h : ∀ i, i < 5 → ∀ m ∈ Lf i, m.wf) (hw : WithoutR g (Lf g.level.toNat) l ok) : ∀ i, i < 5 → ∀ m ∈ updL Lf g.level.toNat l i, m.wf := by
  intro i hi m hm
  by_cases e : i = g.level.toNat
  · subst e
    rw [updL_same] at hm
    rcases hw with ⟨_, rfl, _⟩ | ⟨_, k, _, _, rfl⟩
    · cases hm
    · rcases List.mem_append.1 hm with hm | hm
      · exact h _ hi m (List.mem_of_mem_take hm)
      · exact h _ hi m (List.mem_of_mem_drop hm)
  · rw [updL_other e] at hm; exact h i hi m hm
theorem upd_ins {Lf : Lvs} {q : Nat} {N : Nat} {lt : Meta → Meta → Bool} {m : Meta} (h : ∀ i, i < 5 → (Lf i).length ≤ N) : ∀ i, i < 5 → (updL Lf q (insS lt (Lf q) m) i).length ≤ N + 1 := by
  intro i hi
  by_cases e : i = q
  · subst e
    rw [updL_same, (insS_perm _ _).length_eq, List.length_append]
    have := h i hi
    simp; omega
  · rw [updL_other e]; have := h i hi; omega
theorem ins_wf {Lf : Lvs} {q : Nat} {lt : Meta → Meta → Bool} {m : Meta} (h : ∀ i, i < 5 → ∀ m ∈ Lf i, m.wf) (hm : m.wf) : ∀ i, i < 5 → ∀ x ∈ updL Lf q (insS lt (Lf q) m) i, x.wf := by
  intro i hi x hx
  by_cases e : i = q
  · subst e
    rw [updL_same, (insS_perm _ _).mem_iff, List.mem_append, List.mem_singleton] at hx
    rcases hx with hx | rfl
    · exact h i hi x hx
    · exact hm
  · rw [updL_other e] at hx; exact h i hi x hx
theorem stR_of {G : PM} {e : Edit} {L : Lvs} {S : Shs} (h : LvR G S L 5) (hl : ∀ i, i < 5 → (L i).length ≤ 1000000) (hw : ∀ i, i < 5 → ∀ m ∈ L i, m.wf) : StR G (mkX e L) S := ⟨h.lv, fun i hi => by have := hl i hi; show (L i).length * 112 ≤ _; omega, hw⟩
theorem ref_no {s : State} {e : Edit} {j : Nat} {L : Lvs} {ok : Bool} (hr : RightP s) (h : RefA s e j L ok) (hm : ∀ m ∈ e.add, 0 ≤ m.level) (hj : ok = true → e.add.length ≤ j) (hc : (!ok || !rightS (mkX e L)) = true) : applyO s e = none := by
  cases ok with
  | false => exact h.no
  | true =>
    obtain ⟨L1, L2, _, _, h3, h4⟩ := h.end' hr hm (hj rfl)
    rw [h3]
    exact chk_no h4 (by simpa using hc)
theorem ref_yes {s : State} {e : Edit} {j : Nat} {L : Lvs} {ok : Bool} (hr : RightP s) (h : RefA s e j L ok) (hm : ∀ m ∈ e.add, 0 ≤ m.level) (hj : ok = true → e.add.length ≤ j) (hc : (!ok || !rightS (mkX e L)) = false) : ∃ Y, applyO s e = some Y ∧ EqS (mkX e L) Y := by
  cases ok with
  | false => cases hc
  | true =>
    obtain ⟨L1, L2, _, _, h3, h4⟩ := h.end' hr hm (hj rfl)
    exact ⟨_, by rw [h3]; exact chk_eq h4 (by simpa using hc), h4⟩
/-! ### States that are the same -/
noncomputable def eqGenS (a b : State) : Bool := B (((List.range 5).map fun i => Value.int .u64 (a.gens i)) = (List.range 5).map fun i => Value.int .u64 (b.gens i))
theorem eqGenS_iff {a b : State} : eqGenS a b = true ↔ ((List.range 5).map fun i => Value.int .u64 (a.gens i)) = (List.range 5).map fun i => Value.int .u64 (b.gens i) := B_iff
/-- both states are the same (the document's test) -/
noncomputable def sameS (a b : State) : Bool := B (∀ i, i < 5 → sameM (a.lv i) (b.lv i) = true) && ((((a.log == b.log) && (a.next == b.next)) && (a.seq == b.seq)) && eqGenS a b)
theorem sameS_no {a b : State} {i : Nat} (hi : i < 5) (h : sameM (a.lv i) (b.lv i) = false) : sameS a b = false := by
  unfold sameS
  rw [show B (∀ i, i < 5 → sameM (a.lv i) (b.lv i) = true) = false from B_false fun hc => by have := hc i hi; rw [h] at this; cases this]; rfl
theorem sameS_yes {a b : State} (h : ∀ i, i < 5 → sameM (a.lv i) (b.lv i) = true) : sameS a b = ((((a.log == b.log) && (a.next == b.next)) && (a.seq == b.seq)) && eqGenS a b) := by
  unfold sameS
  rw [show B (∀ i, i < 5 → sameM (a.lv i) (b.lv i) = true) = true from B_true h]; rfl
theorem sameS_of {a b : State} (h : EqS a b) : sameS a b = true := by
  rw [sameS_yes fun i hi => by rw [h.lv i hi]; exact sameM_refl _, h.log, h.next, h.seq, show eqGenS a b = true from B_true (by rw [h.gens])]
  simp
theorem EqS.trans {X Y Z : State} (h : EqS X Y) (h' : EqS Y Z) : EqS X Z := ⟨fun i hi => (h.lv i hi).trans (h'.lv i hi), h.log.trans h'.log, h.next.trans h'.next, h.seq.trans h'.seq, h.least.trans h'.least, h.gens.trans h'.gens⟩
theorem AppR.det {s : State} {e : Edit} {X Y : State} {r r' : Int} (h : AppR s e X r) (h' : AppR s e Y r') : EqS X Y ∧ r = r' := by
  rcases h with ⟨h1, rfl, rfl⟩ | ⟨h1, h2, rfl, rfl⟩ | ⟨h1, rfl, Z, h2, h3⟩ <;> rcases h' with ⟨k1, rfl, rfl⟩ | ⟨k1, k2, rfl, rfl⟩ | ⟨k1, rfl, Z', k2, k3⟩
  · exact ⟨.refl _, rfl⟩
  · rw [h1] at k1; cases k1
  · rw [h1] at k1; cases k1
  · rw [h1] at k1; cases k1
  · exact ⟨.refl _, rfl⟩
  · rw [h2] at k2; cases k2
  · rw [h1] at k1; cases k1
  · rw [h2] at k2; cases k2
  · rw [h2] at k2; cases k2
    exact ⟨h3.trans k3.symm, rfl⟩
def StW (s : State) : Prop := (u64 s.log ∧ u64 s.next ∧ u64 s.seq ∧ u64 s.least) ∧ ∀ i, i < 5 → u64 (s.gens i)
theorem gensS_conf {s : State} (h : ∀ i, i < 5 → u64 (s.gens i)) : Conf gensKs ((List.range 5).map fun i => Value.int .u64 (s.gens i)) := by
  have := Conf.rep (k := .int .u64) (f := fun i => Value.int .u64 (s.gens i)) (List.range 5) (fun i hi => by
    have hr := h i (List.mem_range.1 hi)
    unfold u64 at hr
    refine .int ?_ ?_
    all_goals (simp only [IntKind.min, IntKind.max, IntKind.bits, IntKind.signed]; simp; omega))
  rw [List.length_range] at this
  exact this
theorem StW.zero : ∀ i, i < 5 → u64 (State.zero.gens i) := fun _ _ => ⟨show (0 : Int) ≤ 0 by decide, show (0 : Int) < 18446744073709551616 by decide⟩
theorem AppR.gens {s : State} {e : Edit} {X : State} {r : Int} (h : AppR s e X r) (hw : e.wf) : ∀ i, i < 5 → u64 (X.gens i) := by
  rcases h with ⟨_, _, rfl⟩ | ⟨_, _, _, rfl⟩ | ⟨_, _, Y, h1, h2⟩
  · exact StW.zero
  · exact StW.zero
  · rw [h2.gens]
    unfold applyO at h1
    split at h1
    · cases hd : foldO dropF e.drop s.lv with
      | none => rw [hd] at h1; cases h1
      | some L1 =>
        rw [hd] at h1
        simp only [Option.bind_some] at h1
        cases ha : foldO addF e.add L1 with
        | none => rw [ha] at h1; cases h1
        | some L2 =>
          rw [ha] at h1
          simp only [Option.bind_some] at h1
          unfold chk at h1
          split at h1
          · cases h1; exact hw.gens
          · cases h1
    · cases h1
theorem applyO_inv {s : State} {e : Edit} {Y : State} (h : applyO s e = some Y) : okB s e = true ∧ rightS Y = true ∧ ∃ L1 L2, foldO dropF e.drop s.lv = some L1 ∧ foldO addF e.add L1 = some L2 ∧ Y = mkX e (srtL L2) := by
  unfold applyO at h
  split at h
  · rename_i hk
    cases hd : foldO dropF e.drop s.lv with
    | none => rw [hd] at h; cases h
    | some L1 =>
      rw [hd] at h
      simp only [Option.bind_some] at h
      cases ha : foldO addF e.add L1 with
      | none => rw [ha] at h; cases h
      | some L2 =>
        rw [ha] at h
        simp only [Option.bind_some] at h
        unfold chk at h
        split at h
        · rename_i hr
          cases h
          exact ⟨hk, hr, L1, L2, rfl, ha, rfl⟩
        · cases h
  · cases h
theorem AppR.len {s : State} {e : Edit} {X : State} {r : Int} (h : AppR s e X r) {i : Nat} (hi : i < 5) : (X.lv i).length ≤ 1024 := by
  rcases h with ⟨_, _, rfl⟩ | ⟨_, _, _, rfl⟩ | ⟨_, _, Y, h1, h2⟩
  · exact Nat.zero_le _
  · exact Nat.zero_le _
  · rw [h2.lv i hi]
    have h3 := (rightP_of (applyO_inv h1).2.1).few
    have h4 := lv_tot Y hi
    omega
end Go.Tan

namespace Go.Proofs.Ytnhdaaggkdegpaa
set_option linter.unusedSimpArgs false
set_option linter.unusedVariables false
open Go.Tan Go.RowKit

namespace FxVeSg
theorem go13 : goFn Try.prog 13 = true := by kernel_rfl
theorem go24 : goFn Try.prog 24 = true := by kernel_rfl
theorem eqt25 : eqT Try.prog 4 25 (gensKs) = true := by kernel_rfl
end FxVeSg
namespace Fx
theorem bp27_1_2_3_4_5 : bPl Try.prog 27 [1, 2, 3, 4, 5] = some ((State.zero.cells hd0), [(5, 1), (6, 1), (7, 1), (8, 1), (9, 5)]) := by kernel_rfl
theorem go57 : goFn Try.prog 57 = true := by kernel_rfl
theorem go58 : goFn Try.prog 58 = true := by kernel_rfl
end Fx
theorem without_ok (h : Sh) (l : List Meta) (g : Gone) (G : PM) (hs : SlR G 40 Meta.cells h l) (hl : l.length ≤ 1000000) : Ct Try.prog 57 ([h.val l.length, .int .u64 g.number] : List Value).toArray G [] (fun G' μ' u => ∃ (h' : Sh) (L : List Meta) (ok : Bool), WithoutR g l L ok ∧ μ' = [] ∧ u = .tuple #[h'.val L.length, .bool ok] ∧ SlR G' 40 Meta.cells h' L) := by
  refine Ct.of Try.func57 rfl Try.ntmps57 rfl fun w0 hs0 => ?_
  refine .seq ?_
  refine Wk.rg [0, 1] rfl rfl ?_
  refine asg rfl .no (.u rfl) ?_
  refine asg rfl .no (.u rfl) ?_
  refine .nil ?_
  refine .code ?_
  refine .seq ?_
  refine .seq ?_
  refine Wk.rg [0] rfl rfl ?_
  refine asg rfl .no (.u rfl) ?_
  refine .nil ?_
  refine .code ?_
  refine .block ?_
  refine Wk.lop (α := Nat) (fun k => [(6, true, .int .i64 (k : Int))]) (fun _ => [])
    (fun k Gl => (k ≤ l.length) ∧ (∀ j, j < k → isN g (l.getD j Meta.zero) = false)) (fun k => l.length - k) 0 [(0, true, _), (1, true, _)] []
    (ESub.cons rfl (by first | rfl | exact evi (by omega)) (ESub.cons rfl rfl (ESub.cons rfl rfl ESub.nil)))
    MSub.nil ?_ ?_
  · refine ⟨?_, ?_⟩
    · (try dsimp only) <;> (first | omega | rfl | assumption | (simp; done))
    · (try dsimp only) <;> (exact fun j hj => by omega)
  intro k N0 Gl0 hN0 hGl0 hF0
  try dsimp only at hF0 hN0 ⊢
  obtain ⟨hk, hno⟩ := hF0
  have hs := hs.mono hGl0
  refine .seq ?_
  refine .seq ?_
  refine Wk.rg [0, 1, 2, 3] rfl rfl ?_
  refine mv rfl .no (.u rfl) ?_
  refine mv rfl .no (.u rfl) ?_
  refine ln rfl .no Fx.sn22 (.u rfl) ?_
  refine cp rfl .no (.u rfl) (.u rfl) rfl ?_
  refine .nil ?_
  refine .code ?_
  refine .cond rfl (fun c1 => ?_) (fun c1 => ?_)
  · have c1k := c1
    try simp only [decide_eq_true_eq, decide_eq_false_iff_not, Int.not_lt, Int.not_le, gt_iff_lt, ge_iff_le, Bool.or_eq_true, Bool.and_eq_true, Bool.or_eq_false_iff, Bool.not_eq_true', Bool.not_eq_false', Int.toNat_natCast, bne_iff_ne, beq_iff_eq, bne_eq_false_iff_eq, beq_eq_false_iff_ne, ne_eq] at c1
    refine .skip ?_
    refine .code ?_
    refine .seq ?_
    refine .block ?_
    refine .seq ?_
    refine Wk.rg [0, 1, 2, 3, 4, 5, 6] rfl rfl ?_
    refine mv rfl .no (.u rfl) ?_
    refine mv rfl .no (.u rfl) ?_
    refine ih rfl .no Fx.se22 (.u rfl) (.u rfl) (fun _ => by omega) (fun _ => by omega) (fun _ => hs.nn (k := k) (by first | omega | (simp only [Bool.and_eq_true, decide_eq_true_eq] at hc; omega) | (simp only [List.length_cons, List.length_nil]; omega))) ?_
    refine fa rfl .no Fx.fo48_3 (.u rfl) ?_
    refine ld rfl .no Fx.ag24 (.u rfl) (fun _ => (hs.gat k (by omega) (by omega) 3 _ rfl).rd) ?_
    refine mv rfl .no (.u rfl) ?_
    refine cp rfl .no (.u rfl) (.u rfl) rfl ?_
    refine .nil ?_
    refine .code ?_
    refine .cond rfl (fun c2 => ?_) (fun c2 => ?_)
    · have c2k := c2
      try simp only [decide_eq_true_eq, decide_eq_false_iff_not, Int.not_lt, Int.not_le, gt_iff_lt, ge_iff_le, Bool.or_eq_true, Bool.and_eq_true, Bool.or_eq_false_iff, Bool.not_eq_true', Bool.not_eq_false', Int.toNat_natCast, bne_iff_ne, beq_iff_eq, bne_eq_false_iff_eq, beq_eq_false_iff_ne, ne_eq] at c2
      refine .seq ?_
      refine Wk.rg [0, 1, 2, 3, 4, 5] rfl rfl ?_
      refine b0 rfl rfl Fx.se22 ?_; intro v21
      refine mv rfl .no (.u rfl) ?_
      refine mv rfl .no (.u rfl) ?_
      refine kE (k) rfl .no Fx.se22 hs (.u rfl) (.u rfl) (fun _ => by omega) (fun _ => by omega) ?_
      intro h24 L24 eL24 lL24 hs24
      have lL24 := lL24 rfl
      refine apL (xs := ([] : List Meta)) rfl Fx.se22 Fx.zv48 rfl (.u rfl) (.u rfl) .here hs24 (fun _ _ => Meta.len _) (metas_one _) (by (try simp only [List.length_append, List.length_cons, List.length_nil, List.length_take, List.length_drop]); omega) (by unfold maxLen; (try simp only [List.length_append, List.length_cons, List.length_nil, List.length_take, List.length_drop]); omega) ?_; intro v25 ov25
      refine asg rfl .no (.u rfl) ?_
      refine .nil ?_
      refine .code ?_
      refine .seq ?_
      refine Wk.rg [0, 1, 2, 3, 4, 5, 6] rfl rfl ?_
      refine mv rfl .no (.u rfl) ?_
      refine mv rfl .no (.u rfl) ?_
      refine mv rfl .no (.u rfl) ?_
      refine arn (((k + 1) : Nat) : Int) rfl .no (.u rfl) (.u rfl) rfl (fun _ => by omega) (fun _ => wrap_i64 (by omega) (by omega)) ?_
      refine kD ((k + 1)) rfl .no Fx.se22 hs (.u rfl) (.u rfl) (fun _ => by omega) (fun _ => by omega) ?_
      intro h30 L30 eL30 lL30 hs30
      have lL30 := lL30 rfl
      refine apL (xs := (([] : List Meta) ++ L24)) rfl Fx.se22 Fx.zv48 rfl (.u rfl) (.u rfl) .here hs30 (fun _ _ => Meta.len _) (metas_one _) (by (try simp only [List.length_append, List.length_cons, List.length_nil, List.length_take, List.length_drop]); omega) (by unfold maxLen; (try simp only [List.length_append, List.length_cons, List.length_nil, List.length_take, List.length_drop]); omega) ?_; intro v31 ov31
      refine asg rfl .no (.u rfl) ?_
      refine .nil ?_
      refine .code ?_
      refine .seq ?_
      refine Wk.rg [0, 1, 2] rfl rfl ?_
      refine mv rfl .no (.u rfl) ?_
      refine asg rfl .no (.u rfl) ?_
      refine asg rfl .no (.u rfl) ?_
      refine .nil ?_
      refine .code ?_
      refine .ret ?_
      refine we_fs .here (fun _ _ => rfl) (by intro b hb; cases hb) ?_; intro GfR hR hleR evR hsR; subst evR
      have hs := hs.mono hleR
      have hs24 := hs24.mono hleR
      have hs30 := hs30.mono hleR
      refine We.fin0 Try.results57 (.tmp rfl (.tmp rfl .nil)) ?_
      obtain hh := idx_hit (p := isN g) (l := l) (by omega) hno c2k
      exact ⟨_, _, true, .inr ⟨rfl, k, (Value.int.inj hh).2.symm, by omega, by rw [eL24, eL30]; rfl⟩, rfl, rfl, hsR⟩
    · have c2k := c2
      try simp only [decide_eq_true_eq, decide_eq_false_iff_not, Int.not_lt, Int.not_le, gt_iff_lt, ge_iff_le, Bool.or_eq_true, Bool.and_eq_true, Bool.or_eq_false_iff, Bool.not_eq_true', Bool.not_eq_false', Int.toNat_natCast, bne_iff_ne, beq_iff_eq, bne_eq_false_iff_eq, beq_eq_false_iff_ne, ne_eq] at c2
      refine .skip ?_
      refine .blk ?_
      refine .code ?_
      refine Wk.rg [0, 1, 2] rfl rfl ?_
      refine mv rfl .no (.u rfl) ?_
      refine arn (((k + 1) : Nat) : Int) rfl .no (.u rfl) (.u rfl) rfl (fun _ => by omega) (fun _ => wrap_i64 (by omega) (by omega)) ?_
      refine asg rfl .no (.u rfl) ?_
      refine .nil ?_
      refine We.lpo (k + 1) ?_ ?_ ?_ ?_ ?_
      · exact (ESub.cons rfl (by first | rfl | exact evi (by omega)) (ESub.cons rfl rfl (ESub.cons rfl rfl ESub.nil)))
      · exact MSub.nil
      · first | omega | (dsimp only; omega)
      · exact hGl0
      · refine ⟨?_, ?_⟩
        · (try dsimp only) <;> (first | omega | rfl | assumption | (simp; done))
        · (try dsimp only) <;> (exact idx_step hno c2k)
  · have c1k := c1
    try simp only [decide_eq_true_eq, decide_eq_false_iff_not, Int.not_lt, Int.not_le, gt_iff_lt, ge_iff_le, Bool.or_eq_true, Bool.and_eq_true, Bool.or_eq_false_iff, Bool.not_eq_true', Bool.not_eq_false', Int.toNat_natCast, bne_iff_ne, beq_iff_eq, bne_eq_false_iff_eq, beq_eq_false_iff_ne, ne_eq] at c1
    refine .exit ?_
    refine .xcode ?_
    refine .xlp ?_
    refine .xblk ?_
    refine .code ?_
    refine .seq ?_
    refine Wk.rg [0, 1] rfl rfl ?_
    refine asg rfl .no (.u rfl) ?_
    refine asg rfl .no (.u rfl) ?_
    refine .nil ?_
    refine .code ?_
    refine .ret ?_
    refine We.fin0 Try.results57 (.tmp rfl (.tmp rfl .nil)) ?_
    obtain hh := idx_none (p := isN g) (l := l) (by omega) hno
    exact ⟨⟨none, 0⟩, [], false, .inl ⟨rfl, rfl, by rw [← (Value.int.inj hh).2]; decide⟩, rfl, rfl, SlR.nul⟩

theorem placed_ok (level : Int) (h : Sh) (l : List Meta) (m : Meta) (G : PM) (hs : SlR G 40 Meta.cells h l) (hl : l.length ≤ 1000000) (h0 : 0 ≤ level) : Ct Try.prog 58 ([.int .i64 level, h.val l.length, m.val] : List Value).toArray G [] (fun G' μ' u => ∃ (h' : Sh) (L : List Meta), L = insS (lvLt level) l m ∧ μ' = [] ∧ u = h'.val L.length ∧ SlR G' 40 Meta.cells h' L) := by
  refine Ct.of Try.func58 rfl Try.ntmps58 rfl fun w0 hs0 => ?_
  refine .seq ?_
  refine Wk.rg [0, 1] rfl rfl ?_
  refine bx rfl (.u rfl) rfl ?_; intro b5
  refine asg rfl .no (.u rfl) ?_
  refine .nil ?_
  refine .code ?_
  refine .seq ?_
  refine Wk.rg [0] rfl rfl ?_
  refine asg rfl .no (.u rfl) ?_
  refine .nil ?_
  refine .code ?_
  refine .seq ?_
  refine .block ?_
  refine Wk.lop (α := Nat) (fun k => [(7, true, .int .i64 (k : Int))]) (fun _ => [])
    (fun k Gl => (k ≤ l.length) ∧ (∀ j, j < k → lvLt level m (l.getD j Meta.zero) = false)) (fun k => l.length - k) 0 [(0, true, _), (1, true, _), (5, true, _)] [_]
    (ESub.cons rfl (by first | rfl | exact evi (by omega)) (ESub.cons rfl rfl (ESub.cons rfl rfl (ESub.cons rfl rfl ESub.nil))))
    (MSub.cons .here rfl MSub.nil) ?_ ?_
  · refine ⟨?_, ?_⟩
    · (try dsimp only) <;> (first | omega | rfl | assumption | (simp; done))
    · (try dsimp only) <;> (exact fun j hj => by omega)
  intro k N0 Gl0 hN0 hGl0 hF0
  try dsimp only at hF0 hN0 ⊢
  obtain ⟨hk, hno⟩ := hF0
  have hs := hs.mono hGl0
  refine .seq ?_
  refine .seq ?_
  refine Wk.draw (mc := ⟨false, false⟩) [0, 1, 2, 3, 4, 5, 6, 7, 8, 9, 10, 11, 12, 13, 14, 15, 16, 17, 18, 19, 20, 21, 22, 23, 24, 25, 26, 27, 28, 29, 30, 31] Fx.mix (by kernel_rfl) ?_
  refine mv rfl .no (.u rfl) ?_
  refine mv rfl .no (.u rfl) ?_
  refine ln rfl .no Fx.sn22 (.u rfl) ?_
  refine cp rfl .no (.u rfl) (.u rfl) rfl ?_
  refine mv rfl .no (.u rfl) ?_
  refine mv rfl (.t rfl rfl) (.u rfl) ?_
  refine cp rfl (.t rfl rfl) (.s rfl) (.u rfl) rfl ?_
  refine mv rfl (.t rfl rfl) (.s rfl) ?_
  refine mv rfl (.tc rfl rfl) (.u rfl) ?_
  refine mv rfl (.tc rfl rfl) (.u rfl) ?_
  refine ih rfl (.tc rfl rfl) Fx.se22 (.s rfl) (.s rfl) (fun hc => by (try simp only [Bool.and_eq_true, decide_eq_true_eq] at hc); omega) (fun hc => by (try simp only [Bool.and_eq_true, decide_eq_true_eq] at hc); omega) (fun hc => hs.nn (k := k) (by first | omega | (simp only [Bool.and_eq_true, decide_eq_true_eq] at hc; omega) | (simp only [List.length_cons, List.length_nil]; omega))) ?_
  refine fa rfl (.tc rfl rfl) Fx.fo48_3 (.s rfl) ?_
  refine ld rfl (.tc rfl rfl) Fx.ag24 (.s rfl) (fun hc => (hs.gat k (by (try simp only [Bool.and_eq_true, decide_eq_true_eq] at hc); omega) (by (try simp only [Bool.and_eq_true, decide_eq_true_eq] at hc); omega) 3 _ rfl).rd) ?_
  refine fz rfl (.tc rfl rfl) Fx.fo48_3 (.u rfl) ?_
  refine ld rfl (.tc rfl rfl) Fx.ag24 (.s rfl) (fun hc => Rd.own .here (by first | exact wap_f rfl | rfl)) ?_
  refine cp rfl (.tc rfl rfl) (.s rfl) (.s rfl) rfl ?_
  refine pkA rfl (.t rfl rfl) (.s rfl) (.s rfl) ?_
  refine mv rfl (.t rfl rfl) (.s rfl) ?_
  refine mv rfl (.fc rfl rfl) (.u rfl) ?_
  refine cp rfl (.fc rfl rfl) (.s rfl) (.u rfl) rfl ?_
  refine mv rfl (.fc rfl rfl) (.s rfl) ?_
  refine mv rfl (.tc rfl rfl) (.u rfl) ?_
  refine mv rfl (.tc rfl rfl) (.u rfl) ?_
  refine ih rfl (.tc rfl rfl) Fx.se22 (.s rfl) (.s rfl) (fun hc => by (try simp only [Bool.and_eq_true, decide_eq_true_eq] at hc); omega) (fun hc => by (try simp only [Bool.and_eq_true, decide_eq_true_eq] at hc); omega) (fun hc => hs.nn (k := k) (by first | omega | (simp only [Bool.and_eq_true, decide_eq_true_eq] at hc; omega) | (simp only [List.length_cons, List.length_nil]; omega))) ?_
  refine fa rfl (.tc rfl rfl) Fx.fo48_6 (.s rfl) ?_
  refine ld rfl (.tc rfl rfl) Fx.ag9 (.s rfl) (fun hc => (hs.gat k (by (try simp only [Bool.and_eq_true, decide_eq_true_eq] at hc); omega) (by (try simp only [Bool.and_eq_true, decide_eq_true_eq] at hc); omega) 6 _ rfl).rd) ?_
  refine fz rfl (.tc rfl rfl) Fx.fo48_6 (.u rfl) ?_
  refine ld rfl (.tc rfl rfl) Fx.ag9 (.s rfl) (fun hc => Rd.own .here (by first | exact wap_f rfl | rfl)) ?_
  refine cs rfl (.tc rfl rfl) (.s rfl) (.s rfl) rfl ?_
  refine pkA rfl (.fc rfl rfl) (.s rfl) (.s rfl) ?_
  refine pkO rfl (.t rfl rfl) (.s rfl) (.s rfl) ?_
  refine pkA rfl .no (.u rfl) (.s rfl) ?_
  refine .nil ?_
  refine .code ?_
  refine .cond rfl (fun c1 => ?_) (fun c1 => ?_)
  · have c1k := c1
    try simp only [decide_eq_true_eq, decide_eq_false_iff_not, Int.not_lt, Int.not_le, gt_iff_lt, ge_iff_le, Bool.or_eq_true, Bool.and_eq_true, Bool.or_eq_false_iff, Bool.and_eq_false_iff, Bool.not_eq_true', Bool.not_eq_false', Int.toNat_natCast, bne_iff_ne, beq_iff_eq, bne_eq_false_iff_eq, beq_eq_false_iff_ne, ne_eq] at c1
    refine .skip ?_
    refine .code ?_
    refine .block ?_
    refine Wk.rg [0, 1, 2] rfl rfl ?_
    refine mv rfl .no (.u rfl) ?_
    refine arn (((k + 1) : Nat) : Int) rfl .no (.u rfl) (.u rfl) rfl (fun _ => by omega) (fun _ => wrap_i64 (by omega) (by omega)) ?_
    refine asg rfl .no (.u rfl) ?_
    refine .nil ?_
    refine .blk ?_
    refine We.lpo (k + 1) ?_ ?_ ?_ ?_ ?_
    · exact (ESub.cons rfl (by first | rfl | exact evi (by omega)) (ESub.cons rfl rfl (ESub.cons rfl rfl (ESub.cons rfl rfl ESub.nil))))
    · exact (MSub.cons .here rfl MSub.nil)
    · first | omega | (dsimp only; omega)
    · exact hGl0
    · refine ⟨?_, ?_⟩
      · (try dsimp only) <;> (first | omega | rfl | assumption | (simp; done))
      · (try dsimp only) <;> (exact fun j hj => by (by_cases e : j = k; (subst e; have h9 := c1k; rw [placed_c h0] at h9; simpa using (Bool.and_eq_true_iff.1 h9).2); exact hno j (by omega)))
  · have c1k := c1
    try simp only [decide_eq_true_eq, decide_eq_false_iff_not, Int.not_lt, Int.not_le, gt_iff_lt, ge_iff_le, Bool.or_eq_true, Bool.and_eq_true, Bool.or_eq_false_iff, Bool.and_eq_false_iff, Bool.not_eq_true', Bool.not_eq_false', Int.toNat_natCast, bne_iff_ne, beq_iff_eq, bne_eq_false_iff_eq, beq_eq_false_iff_ne, ne_eq] at c1
    refine .exit ?_
    refine .xcode ?_
    refine .xlp ?_
    refine .xblk ?_
    refine .code ?_
    refine .seq ?_
    refine Wk.rg [0, 1, 2, 3, 4, 5] rfl rfl ?_
    refine b0 rfl rfl Fx.se22 ?_; intro v43
    refine mv rfl .no (.u rfl) ?_
    refine mv rfl .no (.u rfl) ?_
    refine kE (k) rfl .no Fx.se22 hs (.u rfl) (.u rfl) (fun _ => by omega) (fun _ => by omega) ?_
    intro h46 L46 eL46 lL46 hs46
    have lL46 := lL46 rfl
    refine apL (xs := ([] : List Meta)) rfl Fx.se22 Fx.zv48 rfl (.u rfl) (.u rfl) .here hs46 (fun _ _ => Meta.len _) (metas_one _) (by (try simp only [List.length_append, List.length_cons, List.length_nil, List.length_take, List.length_drop]); omega) (by unfold maxLen; (try simp only [List.length_append, List.length_cons, List.length_nil, List.length_take, List.length_drop]); omega) ?_; intro v47 ov47
    refine asg rfl .no (.u rfl) ?_
    refine .nil ?_
    refine .code ?_
    refine .seq ?_
    refine Wk.rg [0, 1, 2, 3, 4] rfl rfl ?_
    refine mv rfl .no (.u rfl) ?_
    refine lA rfl .no Fx.ag48 (.u rfl) (fun _ => RdN.own (.there .here)) (fun _ => Meta.len _) ?_
    refine Go.Tan.b1 rfl Fx.se22 Fx.zv48 (.u rfl) rfl rfl (by decide) ?_; intro b50
    refine apS (xs := (([] : List Meta) ++ L46)) (m) rfl Fx.se22 Fx.zv48 rfl (.u rfl) (.u rfl) (.there .here) .here (Meta.len _) (Meta.one _) (by (try simp only [List.length_append, List.length_cons, List.length_nil, List.length_take, List.length_drop]); omega) (by unfold maxLen; (try simp only [List.length_append, List.length_cons, List.length_nil, List.length_take, List.length_drop]); omega) ?_; intro v51 ov51
    refine asg rfl .no (.u rfl) ?_
    refine .nil ?_
    refine .code ?_
    refine .seq ?_
    refine Wk.rg [0, 1, 2, 3, 4, 5] rfl rfl ?_
    refine mv rfl .no (.u rfl) ?_
    refine mv rfl .no (.u rfl) ?_
    refine mv rfl .no (.u rfl) ?_
    refine kD (k) rfl .no Fx.se22 hs (.u rfl) (.u rfl) (fun _ => by omega) (fun _ => by omega) ?_
    intro h55 L55 eL55 lL55 hs55
    have lL55 := lL55 rfl
    refine apL (xs := ((([] : List Meta) ++ L46) ++ [m])) rfl Fx.se22 Fx.zv48 rfl (.u rfl) (.u rfl) .here hs55 (fun _ _ => Meta.len _) (metas_one _) (by (try simp only [List.length_append, List.length_cons, List.length_nil, List.length_take, List.length_drop]); omega) (by unfold maxLen; (try simp only [List.length_append, List.length_cons, List.length_nil, List.length_take, List.length_drop]); omega) ?_; intro v56 ov56
    refine asg rfl .no (.u rfl) ?_
    refine .nil ?_
    refine .code ?_
    refine .seq ?_
    refine Wk.rg [0, 1] rfl rfl ?_
    refine mv rfl .no (.u rfl) ?_
    refine asg rfl .no (.u rfl) ?_
    refine .nil ?_
    refine .code ?_
    refine .ret ?_
    refine we_fs .here (fun _ _ => rfl) (by intro b hb; cases hb) ?_; intro GfR hR hleR evR hsR; subst evR
    have hs := hs.mono hleR
    have hs46 := hs46.mono hleR
    have hs55 := hs55.mono hleR
    refine We.fin0 Try.results58 (.tmp rfl .nil) ?_
    have hat := ins_at hk hno (by (by_cases e : k < l.length; (right; have h9 := c1k; rw [placed_c h0, decide_eq_true (show (k : Int) < l.length by omega)] at h9; simpa using h9); left; omega))
    exact ⟨_, _, by rw [hat, eL46, eL55]; simp, rfl, rfl, hsR⟩

set_option maxHeartbeats 4000000 in
theorem rapply_ok (s : State) (hd : Nat → Sh) (e : Edit) (ha he : Sh) (G : PM) (hs : StR G s hd) (hE : EdR G e ha he) : Ct Try.prog 21 ([s.val hd, e.val ha he] : List Value).toArray G [] (fun G' μ' u => ∃ X hdX err, AppR s e X err ∧ μ' = [] ∧ u = .tuple #[State.val X hdX, .int .i64 err] ∧ StR G' X hdX) := by
  refine Ct.of Try.func21 rfl Try.ntmps21 rfl fun w0 hs0 => ?_
  have hea := hE.add; have hed := hE.drop
  refine .seq ?_
  refine Wk.rg [0, 1, 2, 3] rfl rfl ?_
  refine bx rfl (.u rfl) rfl ?_; intro b2
  refine bx rfl (.u rfl) rfl ?_; intro b3
  refine al rfl Fx.zr27 ?_; intro b4
  refine asg rfl .no (.u rfl) ?_
  refine .nil ?_
  refine .code ?_
  refine .seq ?_
  refine .seq ?_
  refine Wk.rg [0, 1, 2] rfl rfl ?_
  refine lA rfl .no Fx.ag27 (.u rfl) (fun _ => RdN.own (.there (.there .here))) (fun _ => (by first | exact State.len | exact State.len.trans State.len.symm | exact Edit.len | exact Edit.len.trans Edit.len.symm | exact nine2_len | exact nine2_len.trans State.len.symm | rfl)) ?_
  refine kv rfl .no FxVeSg.go13 (Eva.cons (.u rfl) Eva.nil) (fun _ => rRight_ok s hd _ hs) ?_
  refine nt rfl .no (.u rfl) ?_
  refine .nil ?_
  refine .code ?_
  refine .cond rfl (fun c1 => ?_) (fun c1 => ?_)
  · have c1k := c1
    try simp only [decide_eq_true_eq, decide_eq_false_iff_not, Int.not_lt, Int.not_le, gt_iff_lt, ge_iff_le, Bool.or_eq_true, Bool.and_eq_true, Bool.or_eq_false_iff, Bool.and_eq_false_iff, Bool.not_eq_true', Bool.not_eq_false', Int.toNat_natCast, bne_iff_ne, beq_iff_eq, bne_eq_false_iff_eq, beq_eq_false_iff_ne, ne_eq] at c1
    refine .seq ?_
    refine Wk.rg [0, 1, 2] rfl rfl ?_
    refine bC rfl .no Fx.bp27_ .nil rfl ?_
    refine sw rfl (.u rfl) (.u rfl) rfl Fx.sz27 .here (by first | exact State.len | exact State.len.trans State.len.symm | exact Edit.len | exact Edit.len.trans Edit.len.symm | exact nine2_len | exact nine2_len.trans State.len.symm | rfl) (State.one') ?_
    refine asg rfl .no (.u rfl) ?_
    refine .nil ?_
    refine .code ?_
    refine .ret ?_
    refine We.fin0 Try.results21 (.cell rfl (fun w hw => run_loadVarN Fx.ag27 (RdN.own .here) ((by first | exact State.len | exact State.len.trans State.len.symm | exact Edit.len | exact Edit.len.trans Edit.len.symm | exact nine2_len | exact nine2_len.trans State.len.symm | rfl)) hw) (.tmp rfl .nil)) ?_
    exact ⟨State.zero, hd0, 1, .inl ⟨by simpa using c1k, rfl, rfl⟩, rfl, rfl, st_zero⟩
  · have c1k := c1
    try simp only [decide_eq_true_eq, decide_eq_false_iff_not, Int.not_lt, Int.not_le, gt_iff_lt, ge_iff_le, Bool.or_eq_true, Bool.and_eq_true, Bool.or_eq_false_iff, Bool.and_eq_false_iff, Bool.not_eq_true', Bool.not_eq_false', Int.toNat_natCast, bne_iff_ne, beq_iff_eq, bne_eq_false_iff_eq, beq_eq_false_iff_ne, ne_eq] at c1
    refine .skip ?_
    refine .code ?_
    refine .seq ?_
    have hri : rightS s = true := by simpa using c1k
    have hri' := rightP_of hri
    have hfw := hri'.few
    refine Wk.rg [0, 1, 2, 3, 4, 5, 6, 7, 8, 9, 10, 11, 12, 13, 14, 15, 16, 17, 18, 19, 20, 21, 22, 23, 24, 25, 26, 27, 28, 29, 30, 31, 32, 33, 34, 35, 36, 37, 38] rfl rfl ?_
    refine fz rfl .no Fx.fo32_0 (.u rfl) ?_
    refine ld rfl .no Fx.ag24 (.u rfl) (fun _ => Rd.own (.there .here) (by first | exact wap_f rfl | rfl)) ?_
    refine fz rfl .no Fx.fo27_1 (.u rfl) ?_
    refine ld rfl .no Fx.ag24 (.u rfl) (fun _ => Rd.own (.there (.there .here)) (by first | exact wap_f rfl | rfl)) ?_
    refine cp rfl .no (.u rfl) (.u rfl) rfl ?_
    refine mv rfl .no (.u rfl) ?_
    refine fz rfl (.t rfl rfl) Fx.fo32_1 (.u rfl) ?_
    refine ld rfl (.t rfl rfl) Fx.ag24 (.s rfl) (fun hc => Rd.own (.there .here) (by first | exact wap_f rfl | rfl)) ?_
    refine fz rfl (.t rfl rfl) Fx.fo27_2 (.u rfl) ?_
    refine ld rfl (.t rfl rfl) Fx.ag24 (.s rfl) (fun hc => Rd.own (.there (.there .here)) (by first | exact wap_f rfl | rfl)) ?_
    refine cp rfl (.t rfl rfl) (.s rfl) (.s rfl) rfl ?_
    refine pkA rfl .no (.u rfl) (.s rfl) ?_
    refine mv rfl .no (.u rfl) ?_
    refine fz rfl (.t rfl rfl) Fx.fo32_2 (.u rfl) ?_
    refine ld rfl (.t rfl rfl) Fx.ag24 (.s rfl) (fun hc => Rd.own (.there .here) (by first | exact wap_f rfl | rfl)) ?_
    refine fz rfl (.t rfl rfl) Fx.fo27_3 (.u rfl) ?_
    refine ld rfl (.t rfl rfl) Fx.ag24 (.s rfl) (fun hc => Rd.own (.there (.there .here)) (by first | exact wap_f rfl | rfl)) ?_
    refine cp rfl (.t rfl rfl) (.s rfl) (.s rfl) rfl ?_
    refine pkA rfl .no (.u rfl) (.s rfl) ?_
    refine mv rfl .no (.u rfl) ?_
    refine fz rfl (.t rfl rfl) Fx.fo32_3 (.u rfl) ?_
    refine ld rfl (.t rfl rfl) Fx.ag24 (.s rfl) (fun hc => Rd.own (.there .here) (by first | exact wap_f rfl | rfl)) ?_
    refine fz rfl (.t rfl rfl) Fx.fo27_4 (.u rfl) ?_
    refine ld rfl (.t rfl rfl) Fx.ag24 (.s rfl) (fun hc => Rd.own (.there (.there .here)) (by first | exact wap_f rfl | rfl)) ?_
    refine cp rfl (.t rfl rfl) (.s rfl) (.s rfl) rfl ?_
    refine pkA rfl .no (.u rfl) (.s rfl) ?_
    refine mv rfl .no (.u rfl) ?_
    refine fz rfl (.t rfl rfl) Fx.fo32_5 (.u rfl) ?_
    refine ld rfl (.t rfl rfl) Fx.ag22 (.s rfl) (fun hc => Rd.own (.there .here) (by first | exact wap_f rfl | rfl)) ?_
    refine ln rfl (.t rfl rfl) Fx.sn22 (.s rfl) ?_
    refine cp rfl (.t rfl rfl) (.s rfl) (.u rfl) rfl ?_
    refine pkA rfl .no (.u rfl) (.s rfl) ?_
    refine mv rfl .no (.u rfl) ?_
    refine fz rfl (.t rfl rfl) Fx.fo32_6 (.u rfl) ?_
    refine ld rfl (.t rfl rfl) Fx.ag30 (.s rfl) (fun hc => Rd.own (.there .here) (by first | exact wap_f rfl | rfl)) ?_
    refine ln rfl (.t rfl rfl) Fx.sn30 (.s rfl) ?_
    refine cp rfl (.t rfl rfl) (.s rfl) (.u rfl) rfl ?_
    refine pkA rfl .no (.u rfl) (.s rfl) ?_
    refine asg rfl .no (.u rfl) ?_
    refine .nil ?_
    refine .code ?_
    refine .seq ?_
    refine Wk.rg [0, 1, 2, 3, 4, 5, 6, 7, 8, 9, 10, 11, 12] rfl rfl ?_
    refine fz rfl .no Fx.fo32_0 (.u rfl) ?_
    refine ld rfl .no Fx.ag24 (.u rfl) (fun _ => Rd.own (.there .here) (by first | exact wap_f rfl | rfl)) ?_
    refine fz rfl .no Fx.fo32_1 (.u rfl) ?_
    refine ld rfl .no Fx.ag24 (.u rfl) (fun _ => Rd.own (.there .here) (by first | exact wap_f rfl | rfl)) ?_
    refine fz rfl .no Fx.fo32_2 (.u rfl) ?_
    refine ld rfl .no Fx.ag24 (.u rfl) (fun _ => Rd.own (.there .here) (by first | exact wap_f rfl | rfl)) ?_
    refine fz rfl .no Fx.fo32_3 (.u rfl) ?_
    refine ld rfl .no Fx.ag24 (.u rfl) (fun _ => Rd.own (.there .here) (by first | exact wap_f rfl | rfl)) ?_
    refine fz rfl .no Fx.fo32_4 (.u rfl) ?_
    refine lA rfl .no Fx.ag25 (.u rfl) (fun _ => RdN.part (n := 5) (cs' := (List.range 5).map (fun i => .int .u64 (e.gens i))) (.there .here) (rfl)) (fun _ => rfl) ?_
    refine bCe ((mkX e (fun _ => [])).cells (fun _ => ⟨none, 0⟩)) rfl .no Fx.bp27_1_2_3_4_5 (.cons (.u rfl) rfl (.cons (.u rfl) rfl (.cons (.u rfl) rfl (.cons (.u rfl) rfl (.cons (.u rfl) rfl .nil))))) rfl (rfl) ?_
    refine al rfl Fx.zr27 ?_; intro b7
    refine sw rfl (.u rfl) (.u rfl) rfl Fx.sz27 .here (by first | exact State.len | exact State.len.trans State.len.symm | exact Edit.len | exact Edit.len.trans Edit.len.symm | exact nine2_len | exact nine2_len.trans State.len.symm | rfl) (State.one') ?_
    refine .nil ?_
    refine .code ?_
    refine .seq ?_
    refine .seq ?_
    refine Wk.rg [0] rfl rfl ?_
    refine asg rfl .no (.u rfl) ?_
    refine .nil ?_
    refine .code ?_
    refine .block ?_
    refine Wk.lop (α := Nat × Shs × Lvs × Bool) (fun gh => [(6, true, .bool gh.2.2.2), (8, true, .int .i64 (gh.1 : Int))]) (fun gh => [.blk b7 (cl ((mkX e gh.2.2.1).cells gh.2.1) 27)])
      (fun gh Gl => (gh.1 ≤ 5) ∧ (gh.2.2.2 = okU s e gh.1) ∧ (∀ i, i < gh.1 → gh.2.2.1 i = s.lv i) ∧ (LvR Gl gh.2.1 gh.2.2.1 gh.1)) (fun gh => 5 - gh.1) (0, fun _ => ⟨none, 0⟩, fun _ => [], okBase s e) [(2, true, _), (3, true, _), (4, true, _), (7, true, _)] [_, _, _]
      (ESub.cons rfl rfl (ESub.cons rfl (by first | rfl | exact evi (by omega)) (ESub.cons rfl rfl (ESub.cons rfl rfl (ESub.cons rfl rfl (ESub.cons rfl rfl ESub.nil))))))
      (MSub.cons .here rfl (MSub.cons .here rfl (MSub.cons .here rfl (MSub.cons .here rfl MSub.nil)))) ?_ ?_
    · refine ⟨?_, ?_, ?_, ?_⟩
      · (try dsimp only) <;> (first | omega | rfl | assumption | (simp; done))
      · (try dsimp only) <;> (rfl)
      · (try dsimp only) <;> (exact fun i hi => by omega)
      · (try dsimp only) <;> (exact ⟨fun i hi => by omega⟩)
    intro gh N0 Gl0 hN0 hGl0 hF0
    obtain ⟨k, sh, Lf, ok⟩ := gh; dsimp only at hF0 hN0 ⊢
    obtain ⟨hk, hok, hLf, hls⟩ := hF0
    have hs := hs.mono hGl0
    have hea := hea.mono hGl0
    have hed := hed.mono hGl0
    refine .seq ?_
    refine .seq ?_
    refine Wk.rg [0, 1] rfl rfl ?_
    refine mv rfl .no (.u rfl) ?_
    refine cp rfl .no (.u rfl) (.u rfl) rfl ?_
    refine .nil ?_
    refine .code ?_
    refine .cond rfl (fun c2 => ?_) (fun c2 => ?_)
    · have c2k := c2
      try simp only [decide_eq_true_eq, decide_eq_false_iff_not, Int.not_lt, Int.not_le, gt_iff_lt, ge_iff_le, Bool.or_eq_true, Bool.and_eq_true, Bool.or_eq_false_iff, Bool.and_eq_false_iff, Bool.not_eq_true', Bool.not_eq_false', Int.toNat_natCast, bne_iff_ne, beq_iff_eq, bne_eq_false_iff_eq, beq_eq_false_iff_ne, ne_eq] at c2
      refine .skip ?_
      refine .code ?_
      refine .seq ?_
      refine .block ?_
      refine .seq ?_
      refine Wk.draw (mc := ⟨false, false⟩) [0, 1, 2, 3, 4, 5, 6, 7, 8, 9, 10, 11, 12] Fx.mix (by kernel_rfl) ?_
      refine mv rfl .no (.u rfl) ?_
      refine mv rfl .no (.u rfl) ?_
      refine mv rfl (.t rfl rfl) (.u rfl) ?_
      refine fz rfl (.t rfl rfl) Fx.fo32_4 (.u rfl) ?_
      refine iA rfl (.t rfl rfl) Fx.ar25 (.s rfl) (.s rfl) (fun hc => by (try simp only [Bool.and_eq_true, decide_eq_true_eq] at hc); omega) (fun hc => by (try simp only [Bool.and_eq_true, decide_eq_true_eq] at hc); omega) ?_
      refine ld rfl (.t rfl rfl) Fx.ag24 (.s rfl) (fun hc => Rd.own (.there (.there .here)) (e.cell_gen ha he (k := k) (by (try simp only [Bool.and_eq_true, decide_eq_true_eq] at hc); omega))) ?_
      refine mv rfl (.t rfl rfl) (.u rfl) ?_
      refine fz rfl (.t rfl rfl) Fx.fo27_5 (.u rfl) ?_
      refine iA rfl (.t rfl rfl) Fx.ar25 (.s rfl) (.s rfl) (fun hc => by (try simp only [Bool.and_eq_true, decide_eq_true_eq] at hc); omega) (fun hc => by (try simp only [Bool.and_eq_true, decide_eq_true_eq] at hc); omega) ?_
      refine ld rfl (.t rfl rfl) Fx.ag24 (.s rfl) (fun hc => Rd.own (.there (.there (.there .here))) (s.cell_gen hd (k := k) (by (try simp only [Bool.and_eq_true, decide_eq_true_eq] at hc); omega))) ?_
      refine cp rfl (.t rfl rfl) (.s rfl) (.s rfl) rfl ?_
      refine pkA rfl .no (.u rfl) (.s rfl) ?_
      refine asg rfl .no (.u rfl) ?_
      refine .nil ?_
      refine .code ?_
      have hlv := hs.lv k (by omega)
      have hlk := lv_tot s (i := k) (by omega)
      refine Wk.rg [0, 1, 2, 3, 4, 5, 6, 7, 8, 9] rfl rfl ?_
      refine mv rfl .no (.u rfl) ?_
      refine b0 rfl rfl Fx.se22 ?_; intro v85
      refine mv rfl .no (.u rfl) ?_
      refine fz rfl .no Fx.fo27_0 (.u rfl) ?_
      refine iA rfl .no Fx.ar23 (.u rfl) (.u rfl) (fun _ => by omega) (fun _ => by omega) ?_
      refine ld rfl .no Fx.ag22 (.u rfl) (fun _ => Rd.own (.there (.there (.there (.there .here)))) (s.cell_lv hd (k := k) (by omega))) ?_
      refine apL (xs := ([] : List Meta)) rfl Fx.se22 Fx.zv48 rfl (.u rfl) (.u rfl) .here hlv (fun _ _ => Meta.len _) (metas_one _) (by (try simp only [List.length_append, List.length_cons, List.length_nil, List.length_take, List.length_drop]); omega) (by unfold maxLen; (try simp only [List.length_append, List.length_cons, List.length_nil, List.length_take, List.length_drop]); omega) ?_; intro v90 ov90
      refine fz rfl .no Fx.fo27_0 (.u rfl) ?_
      refine iA rfl .no Fx.ar23 (.u rfl) (.u rfl) (fun _ => by omega) (fun _ => by omega) ?_
      refine s1v rfl (.u rfl) (.u rfl) .here Fx.sz22 (.there .here) (by show _ < 14; omega) (rfl) ?_
      refine .nil ?_
      refine .blk ?_
      refine .code ?_
      refine wk_fs (.there .here) (fun _ _ => rfl) (by intro b hb; cases hb) ?_; intro GfR hR hleR evR hsR; subst evR
      have hs := hs.mono hleR
      have hea := hea.mono hleR
      have hed := hed.mono hleR
      have hls := hls.mono hleR
      have hlv := hlv.mono hleR
      refine Wk.rg [0, 1, 2] rfl rfl ?_
      refine mv rfl .no (.u rfl) ?_
      refine arn (((k + 1) : Nat) : Int) rfl .no (.u rfl) (.u rfl) rfl (fun _ => by omega) (fun _ => wrap_i64 (by omega) (by omega)) ?_
      refine asg rfl .no (.u rfl) ?_
      refine .nil ?_
      refine We.lpo (k + 1, updS sh k hR, updL Lf k ([] ++ s.lv k), ok && decide (e.gens k ≥ s.gens k)) ?_ ?_ ?_ ?_ ?_
      · exact (ESub.cons rfl rfl (ESub.cons rfl (by first | rfl | exact evi (by omega)) (ESub.cons rfl rfl (ESub.cons rfl rfl (ESub.cons rfl rfl (ESub.cons rfl rfl ESub.nil))))))
      · exact (MSub.cons .here (by dsimp only; rw [cells_set (k := k) (by omega) (by omega)]) (MSub.cons .here rfl (MSub.cons .here rfl (MSub.cons .here rfl MSub.nil))))
      · first | omega | (dsimp only; omega)
      · exact (hGl0).trans hleR
      · refine ⟨?_, ?_, ?_, ?_⟩
        · (try dsimp only) <;> (first | omega | rfl | assumption | (simp; done))
        · (try dsimp only) <;> (rw [hok]; rfl)
        · (try dsimp only) <;> (exact fun i hi => by (by_cases e9 : i = k; (subst e9; rw [updL_same]; simp); rw [updL_other e9]; exact hLf i (by omega)))
        · (try dsimp only) <;> (exact hls.next hsR)
    · have c2k := c2
      try simp only [decide_eq_true_eq, decide_eq_false_iff_not, Int.not_lt, Int.not_le, gt_iff_lt, ge_iff_le, Bool.or_eq_true, Bool.and_eq_true, Bool.or_eq_false_iff, Bool.and_eq_false_iff, Bool.not_eq_true', Bool.not_eq_false', Int.toNat_natCast, bne_iff_ne, beq_iff_eq, bne_eq_false_iff_eq, beq_eq_false_iff_ne, ne_eq] at c2
      refine .exit ?_
      refine .xcode ?_
      refine .xlp ?_
      refine .xblk ?_
      refine .code ?_
      refine .seq ?_
      refine .seq ?_
      refine Wk.rg [0] rfl rfl ?_
      refine asg rfl .no (.u rfl) ?_
      refine .nil ?_
      refine .code ?_
      refine .block ?_
      obtain rfl : k = 5 := by omega
      have hls := hls.congr hLf
      rw [cells_congr hLf]
      refine Wk.lop (α := Nat × Shs × Lvs × Bool) (fun gh => [(6, true, .bool gh.2.2.2), (9, true, .int .i64 (gh.1 : Int))]) (fun gh => [.blk b7 (cl ((mkX e gh.2.2.1).cells gh.2.1) 27)])
        (fun gh Gl => (gh.1 ≤ e.drop.length) ∧ (RefT s e (foldO dropF (e.drop.take gh.1) s.lv) gh.2.2.1 gh.2.2.2) ∧ (∀ i, i < 5 → (gh.2.2.1 i).length ≤ 1024) ∧ (∀ i, i < 5 → ∀ m ∈ gh.2.2.1 i, m.wf) ∧ (LvR Gl gh.2.1 gh.2.2.1 5)) (fun gh => e.drop.length - gh.1) (0, sh, s.lv, ok) [(3, true, _), (4, true, _), (7, true, _)] [_, _, _]
        (ESub.cons rfl rfl (ESub.cons rfl (by first | rfl | exact evi (by omega)) (ESub.cons rfl rfl (ESub.cons rfl rfl (ESub.cons rfl rfl ESub.nil)))))
        (MSub.cons .here rfl (MSub.cons .here rfl (MSub.cons .here rfl (MSub.cons .here rfl MSub.nil)))) ?_ ?_
      · refine ⟨?_, ?_, ?_, ?_, ?_⟩
        · (try dsimp only) <;> (first | omega | rfl | assumption | (simp; done))
        · (try dsimp only) <;> (exact RefT.start hok rfl)
        · (try dsimp only) <;> (exact fun i hi => by have := lv_tot s hi; omega)
        · (try dsimp only) <;> (exact hs.wf)
        · (try dsimp only) <;> (exact hls)
      intro gh N1 Gl1 hN1 hGl1 hF1
      obtain ⟨j, sh, Lf, ok⟩ := gh; dsimp only at hF1 hN1 ⊢
      obtain ⟨hj, hT, hLl, hlw, hls⟩ := hF1
      have hs := hs.mono hGl1
      have hea := hea.mono hGl1
      have hed := hed.mono hGl1
      refine .seq ?_
      refine .seq ?_
      refine Wk.rg [0, 1, 2, 3, 4, 5, 6, 7] rfl rfl ?_
      refine mv rfl .no (.u rfl) ?_
      refine fz rfl .no Fx.fo32_6 (.u rfl) ?_
      refine ld rfl .no Fx.ag30 (.u rfl) (fun _ => Rd.own (.there (.there .here)) (by first | exact wap_f rfl | rfl)) ?_
      refine ln rfl .no Fx.sn30 (.u rfl) ?_
      refine cp rfl .no (.u rfl) (.u rfl) rfl ?_
      refine mv rfl .no (.u rfl) ?_
      refine mv rfl (.t rfl rfl) (.u rfl) ?_
      refine pkA rfl .no (.u rfl) (.s rfl) ?_
      refine .nil ?_
      refine .code ?_
      refine .cond rfl (fun c3 => ?_) (fun c3 => ?_)
      · have c3k := c3
        try simp only [decide_eq_true_eq, decide_eq_false_iff_not, Int.not_lt, Int.not_le, gt_iff_lt, ge_iff_le, Bool.or_eq_true, Bool.and_eq_true, Bool.or_eq_false_iff, Bool.and_eq_false_iff, Bool.not_eq_true', Bool.not_eq_false', Int.toNat_natCast, bne_iff_ne, beq_iff_eq, bne_eq_false_iff_eq, beq_eq_false_iff_ne, ne_eq] at c3
        refine .skip ?_
        refine .code ?_
        refine .seq ?_
        refine .block ?_
        refine .seq ?_
        refine Wk.rg [0, 1, 2, 3, 4, 5, 6] rfl rfl ?_
        obtain ⟨g, eg⟩ := getx (k := j) (xs := e.drop) (by omega)
        have hwg := (hE.wf.drop g (List.mem_of_getElem? eg)).level
        have hok1 := c3.2
        have hlb := RefT.bd (hok1 ▸ hT)
        refine fz rfl .no Fx.fo32_6 (.u rfl) ?_
        refine ld rfl .no Fx.ag30 (.u rfl) (fun _ => Rd.own (.there (.there .here)) (by first | exact wap_f rfl | rfl)) ?_
        refine mv rfl .no (.u rfl) ?_
        refine ih rfl .no Fx.se30 (.u rfl) (.u rfl) (fun _ => by omega) (fun _ => by omega) (fun _ => hed.nn (k := j) (by first | omega | (simp only [Bool.and_eq_true, decide_eq_true_eq] at hc; omega) | (simp only [List.length_cons, List.length_nil]; omega))) ?_
        refine lA rfl .no Fx.ag51 (.u rfl) (fun _ => (hed.at (by omega) eg).rd) (fun _ => rfl) ?_
        refine al rfl Fx.zr51 ?_; intro b10
        refine sw rfl (.u rfl) (.u rfl) rfl Fx.sz51 .here rfl (gones1) ?_
        refine .nil ?_
        refine .code ?_
        refine .seq ?_
        refine Wk.rg [0, 1, 2, 3] rfl rfl ?_
        refine fz rfl .no Fx.fo51_0 (.u rfl) ?_
        refine ld rfl .no Fx.ag5 (.u rfl) (fun _ => Rd.own .here (by first | exact wap_f rfl | rfl)) ?_
        refine cp rfl .no (.u rfl) (.u rfl) rfl ?_
        refine asg rfl .no (.u rfl) ?_
        refine .nil ?_
        refine .code ?_
        refine .seq ?_
        refine Wk.rg [0] rfl rfl ?_
        refine mv rfl .no (.u rfl) ?_
        refine .nil ?_
        refine .code ?_
        refine .cond rfl (fun c4 => ?_) (fun c4 => ?_)
        · have c4k := c4
          try simp only [decide_eq_true_eq, decide_eq_false_iff_not, Int.not_lt, Int.not_le, gt_iff_lt, ge_iff_le, Bool.or_eq_true, Bool.and_eq_true, Bool.or_eq_false_iff, Bool.and_eq_false_iff, Bool.not_eq_true', Bool.not_eq_false', Int.toNat_natCast, bne_iff_ne, beq_iff_eq, bne_eq_false_iff_eq, beq_eq_false_iff_ne, ne_eq] at c4
          refine .seq ?_
          refine Wk.draw (mc := ⟨false, false⟩) [0, 1, 2, 3, 4, 5, 6, 7, 8, 9, 10, 11, 12] Fx.mix (by kernel_rfl) ?_
          refine fz rfl .no Fx.fo51_0 (.u rfl) ?_
          refine ld rfl .no Fx.ag5 (.u rfl) (fun _ => Rd.own .here (by first | exact wap_f rfl | rfl)) ?_
          refine fz rfl .no Fx.fo27_0 (.u rfl) ?_
          refine iA rfl .no Fx.ar23 (.u rfl) (.u rfl) (fun _ => by omega) (fun _ => by omega) ?_
          refine ld (v := (sh g.level.toNat).val (Lf g.level.toNat).length) rfl .no Fx.ag22 (.u rfl) (fun _ => Rd.own (.there .here) (State.cell_lv (mkX e Lf) sh (k := g.level.toNat) (by omega))) ?_
          refine fz rfl .no Fx.fo51_1 (.u rfl) ?_
          refine ld rfl .no Fx.ag24 (.u rfl) (fun _ => Rd.own .here (by first | exact wap_f rfl | rfl)) ?_
          refine kc rfl Fx.go57 (Eva.cons (.u rfl) (Eva.cons (.u rfl) Eva.nil)) (without_ok (sh g.level.toNat) (Lf g.level.toNat) g _ (hls.lv _ (by omega)) (by have := hLl _ (show g.level.toNat < 5 by omega); omega)) ?_
          rintro _ G120 μ120 hG120 ⟨h120, L120, ok120, hW, rfl, rfl, hs120⟩
          have hs := hs.mono hG120
          have hea := hea.mono hG120
          have hed := hed.mono hG120
          have hls := hls.mono hG120
          refine mv rfl .no (.u rfl) ?_
          refine ex rfl .no (.u rfl) rfl ?_
          refine ex rfl .no (.u rfl) rfl ?_
          refine asg rfl .no (.u rfl) ?_
          refine asg rfl .no (.u rfl) ?_
          refine .nil ?_
          refine .code ?_
          refine .seq ?_
          refine Wk.rg [0, 1, 2, 3, 4, 5] rfl rfl ?_
          refine fz rfl .no Fx.fo51_0 (.u rfl) ?_
          refine ld rfl .no Fx.ag5 (.u rfl) (fun _ => Rd.own .here (by first | exact wap_f rfl | rfl)) ?_
          refine mv rfl .no (.u rfl) ?_
          refine fz rfl .no Fx.fo27_0 (.u rfl) ?_
          refine iA rfl .no Fx.ar23 (.u rfl) (.u rfl) (fun _ => by omega) (fun _ => by omega) ?_
          refine s1 rfl (.u rfl) (.u rfl) rfl Fx.sz22 (.there .here) (by show _ < 14; omega) (rfl) ?_
          refine .nil ?_
          refine .code ?_
          refine Wk.rg [0, 1] rfl rfl ?_
          refine mv rfl .no (.u rfl) ?_
          refine asg rfl .no (.u rfl) ?_
          refine .nil ?_
          refine .blk ?_
          refine .code ?_
          refine Wk.rg [0, 1, 2] rfl rfl ?_
          refine mv rfl .no (.u rfl) ?_
          refine arn (((j + 1) : Nat) : Int) rfl .no (.u rfl) (.u rfl) rfl (fun _ => by omega) (fun _ => wrap_i64 (by omega) (by omega)) ?_
          refine asg rfl .no (.u rfl) ?_
          refine .nil ?_
          refine We.lpo (j + 1, updS sh g.level.toNat h120, updL Lf g.level.toNat L120, ok120) ?_ ?_ ?_ ?_ ?_
          · exact (ESub.cons rfl rfl (ESub.cons rfl (by first | rfl | exact evi (by omega)) (ESub.cons rfl rfl (ESub.cons rfl rfl (ESub.cons rfl rfl ESub.nil)))))
          · exact (MSub.cons .here (by dsimp only; rw [cells_set (k := g.level.toNat) (by omega) (by omega)]) (MSub.cons (.there .here) rfl (MSub.cons (.there .here) rfl (MSub.cons (.there .here) rfl MSub.nil))))
          · first | omega | (dsimp only; omega)
          · exact (hGl1).trans hG120
          · refine ⟨?_, ?_, ?_, ?_, ?_⟩
            · (try dsimp only) <;> (first | omega | rfl | assumption | (simp; done))
            · (try dsimp only) <;> (exact RefT.drop (hok1 ▸ hT) eg (by omega) hW)
            · (try dsimp only) <;> (exact upd_len hLl hW.len)
            · (try dsimp only) <;> (exact upd_wf hlw hW)
            · (try dsimp only) <;> (exact hls.upd hs120)
        · have c4k := c4
          try simp only [decide_eq_true_eq, decide_eq_false_iff_not, Int.not_lt, Int.not_le, gt_iff_lt, ge_iff_le, Bool.or_eq_true, Bool.and_eq_true, Bool.or_eq_false_iff, Bool.and_eq_false_iff, Bool.not_eq_true', Bool.not_eq_false', Int.toNat_natCast, bne_iff_ne, beq_iff_eq, bne_eq_false_iff_eq, beq_eq_false_iff_ne, ne_eq] at c4
          refine .skip ?_
          refine .blk ?_
          refine .code ?_
          refine Wk.rg [0, 1, 2] rfl rfl ?_
          refine mv rfl .no (.u rfl) ?_
          refine arn (((j + 1) : Nat) : Int) rfl .no (.u rfl) (.u rfl) rfl (fun _ => by omega) (fun _ => wrap_i64 (by omega) (by omega)) ?_
          refine asg rfl .no (.u rfl) ?_
          refine .nil ?_
          refine We.lpo (j + 1, sh, Lf, false) ?_ ?_ ?_ ?_ ?_
          · exact (ESub.cons rfl (congrArg Value.bool (by assumption)) (ESub.cons rfl (by first | rfl | exact evi (by omega)) (ESub.cons rfl rfl (ESub.cons rfl rfl (ESub.cons rfl rfl ESub.nil)))))
          · exact (MSub.cons (.there .here) rfl (MSub.cons (.there .here) rfl (MSub.cons (.there .here) rfl (MSub.cons (.there .here) rfl MSub.nil))))
          · first | omega | (dsimp only; omega)
          · exact hGl1
          · refine ⟨?_, ?_, ?_, ?_, ?_⟩
            · (try dsimp only) <;> (first | omega | rfl | assumption | (simp; done))
            · (try dsimp only) <;> (exact RefT.dropX (hok1 ▸ hT) eg (by omega))
            · (try dsimp only) <;> (exact hLl)
            · (try dsimp only) <;> (exact hlw)
            · (try dsimp only) <;> (exact hls)
      · have c3k := c3
        try simp only [decide_eq_true_eq, decide_eq_false_iff_not, Int.not_lt, Int.not_le, gt_iff_lt, ge_iff_le, Bool.or_eq_true, Bool.and_eq_true, Bool.or_eq_false_iff, Bool.and_eq_false_iff, Bool.not_eq_true', Bool.not_eq_false', Int.toNat_natCast, bne_iff_ne, beq_iff_eq, bne_eq_false_iff_eq, beq_eq_false_iff_ne, ne_eq] at c3
        refine .exit ?_
        refine .xcode ?_
        refine .xlp ?_
        refine .xblk ?_
        refine .code ?_
        refine .seq ?_
        refine .seq ?_
        refine Wk.rg [0] rfl rfl ?_
        refine asg rfl .no (.u rfl) ?_
        refine .nil ?_
        refine .code ?_
        refine .block ?_
        have hT2 : RefA s e 0 Lf ok := by
          cases ok with
          | true => obtain rfl : j = e.drop.length := by (have := c3k; simp at this; omega)
                    rw [List.take_length] at hT; exact RefA.start hT
          | false => exact ⟨.inr ⟨rfl, by rcases hT with ⟨h, _⟩ | ⟨_, h⟩; cases h; exact h⟩⟩
        refine Wk.lop (α := Nat × Shs × Lvs × Bool) (fun gh => [(6, true, .bool gh.2.2.2), (13, true, .int .i64 (gh.1 : Int))]) (fun gh => [.blk b7 (cl ((mkX e gh.2.2.1).cells gh.2.1) 27)])
          (fun gh Gl => (gh.1 ≤ e.add.length) ∧ (RefA s e gh.1 gh.2.2.1 gh.2.2.2) ∧ (∀ i, i < 5 → (gh.2.2.1 i).length ≤ 1024 + gh.1) ∧ (∀ i, i < 5 → ∀ m ∈ gh.2.2.1 i, m.wf) ∧ (LvR Gl gh.2.1 gh.2.2.1 5)) (fun gh => e.add.length - gh.1) (0, sh, Lf, ok) [(3, true, _), (4, true, _), (7, true, _)] [_, _, _]
          (ESub.cons rfl rfl (ESub.cons rfl (by first | rfl | exact evi (by omega)) (ESub.cons rfl rfl (ESub.cons rfl rfl (ESub.cons rfl rfl ESub.nil)))))
          (MSub.cons .here rfl (MSub.cons .here rfl (MSub.cons .here rfl (MSub.cons .here rfl MSub.nil)))) ?_ ?_
        · refine ⟨?_, ?_, ?_, ?_, ?_⟩
          · (try dsimp only) <;> (first | omega | rfl | assumption | (simp; done))
          · (try dsimp only) <;> (exact hT2)
          · (try dsimp only) <;> (exact hLl)
          · (try dsimp only) <;> (exact hlw)
          · (try dsimp only) <;> (exact hls)
        intro gh N2 Gl2 hN2 hGl2 hF2
        obtain ⟨j, sh, Lf, ok⟩ := gh; dsimp only at hF2 hN2 ⊢
        obtain ⟨hj, hA, hLl, hlw, hls⟩ := hF2
        have hs := hs.mono hGl2
        have hea := hea.mono hGl2
        have hed := hed.mono hGl2
        refine .seq ?_
        refine .seq ?_
        refine Wk.rg [0, 1, 2, 3, 4, 5, 6, 7] rfl rfl ?_
        refine mv rfl .no (.u rfl) ?_
        refine fz rfl .no Fx.fo32_5 (.u rfl) ?_
        refine ld rfl .no Fx.ag22 (.u rfl) (fun _ => Rd.own (.there (.there .here)) (by first | exact wap_f rfl | rfl)) ?_
        refine ln rfl .no Fx.sn22 (.u rfl) ?_
        refine cp rfl .no (.u rfl) (.u rfl) rfl ?_
        refine mv rfl .no (.u rfl) ?_
        refine mv rfl (.t rfl rfl) (.u rfl) ?_
        refine pkA rfl .no (.u rfl) (.s rfl) ?_
        refine .nil ?_
        refine .code ?_
        refine .cond rfl (fun c5 => ?_) (fun c5 => ?_)
        · have c5k := c5
          try simp only [decide_eq_true_eq, decide_eq_false_iff_not, Int.not_lt, Int.not_le, gt_iff_lt, ge_iff_le, Bool.or_eq_true, Bool.and_eq_true, Bool.or_eq_false_iff, Bool.and_eq_false_iff, Bool.not_eq_true', Bool.not_eq_false', Int.toNat_natCast, bne_iff_ne, beq_iff_eq, bne_eq_false_iff_eq, beq_eq_false_iff_ne, ne_eq] at c5
          refine .skip ?_
          refine .code ?_
          refine .seq ?_
          refine .block ?_
          refine .seq ?_
          refine Wk.rg [0, 1, 2, 3, 4, 5, 6] rfl rfl ?_
          obtain ⟨m, em⟩ := getx (k := j) (xs := e.add) (by omega)
          have hwm := (hE.wf.add m (List.mem_of_getElem? em)).level
          have hok1 := c5.2
          have hlb := RefA.bd (hok1 ▸ hA)
          refine fz rfl .no Fx.fo32_5 (.u rfl) ?_
          refine ld rfl .no Fx.ag22 (.u rfl) (fun _ => Rd.own (.there (.there .here)) (by first | exact wap_f rfl | rfl)) ?_
          refine mv rfl .no (.u rfl) ?_
          refine ih rfl .no Fx.se22 (.u rfl) (.u rfl) (fun _ => by omega) (fun _ => by omega) (fun _ => hea.nn (k := j) (by first | omega | (simp only [Bool.and_eq_true, decide_eq_true_eq] at hc; omega) | (simp only [List.length_cons, List.length_nil]; omega))) ?_
          refine lA rfl .no Fx.ag48 (.u rfl) (fun _ => (hea.at (by omega) em).rd) (fun _ => Meta.len _) ?_
          refine al rfl Fx.zr48 ?_; intro b14
          refine sw rfl (.u rfl) (.u rfl) rfl Fx.sz48 .here rfl (Meta.one _) ?_
          refine .nil ?_
          refine .code ?_
          refine .seq ?_
          refine Wk.rg [0, 1, 2, 3] rfl rfl ?_
          refine fz rfl .no Fx.fo48_0 (.u rfl) ?_
          refine ld rfl .no Fx.ag5 (.u rfl) (fun _ => Rd.own .here (by first | exact wap_f rfl | rfl)) ?_
          refine cp rfl .no (.u rfl) (.u rfl) rfl ?_
          refine asg rfl .no (.u rfl) ?_
          refine .nil ?_
          refine .code ?_
          refine .seq ?_
          refine Wk.rg [0] rfl rfl ?_
          refine mv rfl .no (.u rfl) ?_
          refine .nil ?_
          refine .code ?_
          refine .cond rfl (fun c6 => ?_) (fun c6 => ?_)
          · have c6k := c6
            try simp only [decide_eq_true_eq, decide_eq_false_iff_not, Int.not_lt, Int.not_le, gt_iff_lt, ge_iff_le, Bool.or_eq_true, Bool.and_eq_true, Bool.or_eq_false_iff, Bool.and_eq_false_iff, Bool.not_eq_true', Bool.not_eq_false', Int.toNat_natCast, bne_iff_ne, beq_iff_eq, bne_eq_false_iff_eq, beq_eq_false_iff_ne, ne_eq] at c6
            refine Wk.draw (mc := ⟨false, false⟩) [0, 1, 2, 3, 4, 5, 6, 7, 8, 9, 10, 12, 11, 13, 14] Fx.mix (by kernel_rfl) ?_
            refine fz rfl .no Fx.fo48_0 (.u rfl) ?_
            refine ld rfl .no Fx.ag5 (.u rfl) (fun _ => Rd.own .here (by first | exact wap_f rfl | rfl)) ?_
            refine fz rfl .no Fx.fo48_0 (.u rfl) ?_
            refine ld rfl .no Fx.ag5 (.u rfl) (fun _ => Rd.own .here (by first | exact wap_f rfl | rfl)) ?_
            refine cw rfl .no Fx.cv5_3 (.u rfl) (fun _ => wrap_i64 (by omega) (by omega)) ?_
            refine fz rfl .no Fx.fo48_0 (.u rfl) ?_
            refine ld rfl .no Fx.ag5 (.u rfl) (fun _ => Rd.own .here (by first | exact wap_f rfl | rfl)) ?_
            refine fz rfl .no Fx.fo27_0 (.u rfl) ?_
            refine iA rfl .no Fx.ar23 (.u rfl) (.u rfl) (fun _ => by omega) (fun _ => by omega) ?_
            refine ld (v := (sh m.level.toNat).val (Lf m.level.toNat).length) rfl .no Fx.ag22 (.u rfl) (fun _ => Rd.own (.there .here) (State.cell_lv (mkX e Lf) sh (k := m.level.toNat) (by omega))) ?_
            refine lA rfl .no Fx.ag48 (.u rfl) (fun _ => RdN.own .here) (fun _ => Meta.len _) ?_
            refine fz rfl .no Fx.fo27_0 (.u rfl) ?_
            refine kc rfl Fx.go58 (Eva.cons (.u rfl) (Eva.cons (.u rfl) (Eva.cons (.u rfl) Eva.nil))) (placed_ok m.level (sh m.level.toNat) (Lf m.level.toNat) m _ (hls.lv _ (by omega)) (by have := hLl _ (show m.level.toNat < 5 by omega); omega) (by omega)) ?_
            rintro _ G159 μ159 hG159 ⟨h159, L159, eL159, rfl, rfl, hs159⟩
            have hs := hs.mono hG159
            have hea := hea.mono hG159
            have hed := hed.mono hG159
            have hls := hls.mono hG159
            refine iA rfl .no Fx.ar23 (.u rfl) (.u rfl) (fun _ => by omega) (fun _ => by omega) ?_
            refine s1 rfl (.u rfl) (.u rfl) rfl Fx.sz22 (.there .here) (by show _ < 14; omega) (rfl) ?_
            refine .nil ?_
            refine .blk ?_
            refine .code ?_
            refine Wk.rg [0, 1, 2] rfl rfl ?_
            refine mv rfl .no (.u rfl) ?_
            refine arn (((j + 1) : Nat) : Int) rfl .no (.u rfl) (.u rfl) rfl (fun _ => by omega) (fun _ => wrap_i64 (by omega) (by omega)) ?_
            refine asg rfl .no (.u rfl) ?_
            refine .nil ?_
            refine We.lpo (j + 1, updS sh m.level.toNat h159, updL Lf m.level.toNat L159, true) ?_ ?_ ?_ ?_ ?_
            · exact (ESub.cons rfl (congrArg Value.bool (by assumption)) (ESub.cons rfl (by first | rfl | exact evi (by omega)) (ESub.cons rfl rfl (ESub.cons rfl rfl (ESub.cons rfl rfl ESub.nil)))))
            · exact (MSub.cons .here (by dsimp only; rw [cells_set (k := m.level.toNat) (by omega) (by omega)]) (MSub.cons (.there .here) rfl (MSub.cons (.there .here) rfl (MSub.cons (.there .here) rfl MSub.nil))))
            · first | omega | (dsimp only; omega)
            · exact (hGl2).trans hG159
            · refine ⟨?_, ?_, ?_, ?_, ?_⟩
              · (try dsimp only) <;> (first | omega | rfl | assumption | (simp; done))
              · (try dsimp only) <;> (rw [eL159]; exact RefA.add (hok1 ▸ hA) em (by omega))
              · (try dsimp only) <;> (rw [eL159]; exact upd_ins hLl)
              · (try dsimp only) <;> (rw [eL159]; exact ins_wf hlw (hE.wf.add m (List.mem_of_getElem? em)))
              · (try dsimp only) <;> (exact hls.upd hs159)
          · have c6k := c6
            try simp only [decide_eq_true_eq, decide_eq_false_iff_not, Int.not_lt, Int.not_le, gt_iff_lt, ge_iff_le, Bool.or_eq_true, Bool.and_eq_true, Bool.or_eq_false_iff, Bool.and_eq_false_iff, Bool.not_eq_true', Bool.not_eq_false', Int.toNat_natCast, bne_iff_ne, beq_iff_eq, bne_eq_false_iff_eq, beq_eq_false_iff_ne, ne_eq] at c6
            refine .skip ?_
            refine .blk ?_
            refine .code ?_
            refine Wk.rg [0, 1, 2] rfl rfl ?_
            refine mv rfl .no (.u rfl) ?_
            refine arn (((j + 1) : Nat) : Int) rfl .no (.u rfl) (.u rfl) rfl (fun _ => by omega) (fun _ => wrap_i64 (by omega) (by omega)) ?_
            refine asg rfl .no (.u rfl) ?_
            refine .nil ?_
            refine We.lpo (j + 1, sh, Lf, false) ?_ ?_ ?_ ?_ ?_
            · exact (ESub.cons rfl (congrArg Value.bool (by assumption)) (ESub.cons rfl (by first | rfl | exact evi (by omega)) (ESub.cons rfl rfl (ESub.cons rfl rfl (ESub.cons rfl rfl ESub.nil)))))
            · exact (MSub.cons (.there .here) rfl (MSub.cons (.there .here) rfl (MSub.cons (.there .here) rfl (MSub.cons (.there .here) rfl MSub.nil))))
            · first | omega | (dsimp only; omega)
            · exact hGl2
            · refine ⟨?_, ?_, ?_, ?_, ?_⟩
              · (try dsimp only) <;> (first | omega | rfl | assumption | (simp; done))
              · (try dsimp only) <;> (exact RefA.addX (hok1 ▸ hA) em (by omega))
              · (try dsimp only) <;> (exact fun i hi => by have := hLl i hi; omega)
              · (try dsimp only) <;> (exact hlw)
              · (try dsimp only) <;> (exact hls)
        · have c5k := c5
          try simp only [decide_eq_true_eq, decide_eq_false_iff_not, Int.not_lt, Int.not_le, gt_iff_lt, ge_iff_le, Bool.or_eq_true, Bool.and_eq_true, Bool.or_eq_false_iff, Bool.and_eq_false_iff, Bool.not_eq_true', Bool.not_eq_false', Int.toNat_natCast, bne_iff_ne, beq_iff_eq, bne_eq_false_iff_eq, beq_eq_false_iff_ne, ne_eq] at c5
          refine .exit ?_
          refine .xcode ?_
          refine .xlp ?_
          refine .xblk ?_
          refine .code ?_
          refine .seq ?_
          refine .seq ?_
          have hXR : ok = true → StR Gl2 (mkX e Lf) sh := fun h9 => stR_of hls (fun i hi => by have h1 := hLl i hi; have h2 := RefA.bd (h9 ▸ hA); omega) hlw
          have hje : ok = true → e.add.length ≤ j := fun h9 => by (have := c5k; rw [h9] at this; simp at this; omega)
          have hml : ∀ m ∈ e.add, 0 ≤ m.level := fun m hm => (hE.wf.add m hm).level.1
          refine Wk.rg [0, 1, 2, 3, 4, 5, 6] rfl rfl ?_
          refine mv rfl .no (.u rfl) ?_
          refine nt rfl .no (.u rfl) ?_
          refine mv rfl .no (.u rfl) ?_
          refine lA rfl (.f rfl rfl) Fx.ag27 (.u rfl) (fun _ => RdN.own .here) (fun _ => (by first | exact State.len | exact State.len.trans State.len.symm | exact Edit.len | exact Edit.len.trans Edit.len.symm | exact nine2_len | exact nine2_len.trans State.len.symm | rfl)) ?_
          refine kv rfl (.f rfl rfl) FxVeSg.go13 (Eva.cons (.s rfl) Eva.nil) (fun hc => rRight_ok (mkX e Lf) sh _ (hXR (by simpa using hc))) ?_
          refine nt rfl (.f rfl rfl) (.s rfl) ?_
          refine pkO rfl .no (.u rfl) (.s rfl) ?_
          refine .nil ?_
          refine .code ?_
          refine .cond rfl (fun c7 => ?_) (fun c7 => ?_)
          · have c7k := c7
            try simp only [decide_eq_true_eq, decide_eq_false_iff_not, Int.not_lt, Int.not_le, gt_iff_lt, ge_iff_le, Bool.or_eq_true, Bool.and_eq_true, Bool.or_eq_false_iff, Bool.and_eq_false_iff, Bool.not_eq_true', Bool.not_eq_false', Int.toNat_natCast, bne_iff_ne, beq_iff_eq, bne_eq_false_iff_eq, beq_eq_false_iff_ne, ne_eq] at c7
            refine .seq ?_
            refine Wk.rg [0, 1, 2] rfl rfl ?_
            refine bC rfl .no Fx.bp27_ .nil rfl ?_
            refine sw rfl (.u rfl) (.u rfl) rfl Fx.sz27 (.there .here) (by first | exact State.len | exact State.len.trans State.len.symm | exact Edit.len | exact Edit.len.trans Edit.len.symm | exact nine2_len | exact nine2_len.trans State.len.symm | rfl) (State.one') ?_
            refine asg rfl .no (.u rfl) ?_
            refine .nil ?_
            refine .code ?_
            refine .ret ?_
            refine We.fin0 Try.results21 (.cell rfl (fun w hw => run_loadVarN Fx.ag27 (RdN.own .here) ((by first | exact State.len | exact State.len.trans State.len.symm | exact Edit.len | exact Edit.len.trans Edit.len.symm | exact nine2_len | exact nine2_len.trans State.len.symm | rfl)) hw) (.tmp rfl .nil)) ?_
            exact ⟨State.zero, hd0, 180, .inr (.inl ⟨hri, ref_no hri' hA hml hje c7k, rfl, rfl⟩), rfl, rfl, st_zero⟩
          · have c7k := c7
            try simp only [decide_eq_true_eq, decide_eq_false_iff_not, Int.not_lt, Int.not_le, gt_iff_lt, ge_iff_le, Bool.or_eq_true, Bool.and_eq_true, Bool.or_eq_false_iff, Bool.and_eq_false_iff, Bool.not_eq_true', Bool.not_eq_false', Int.toNat_natCast, bne_iff_ne, beq_iff_eq, bne_eq_false_iff_eq, beq_eq_false_iff_ne, ne_eq] at c7
            refine .skip ?_
            refine .code ?_
            refine .seq ?_
            refine Wk.rg [0, 1, 2] rfl rfl ?_
            refine lA rfl .no Fx.ag27 (.u rfl) (fun _ => RdN.own .here) (fun _ => (by first | exact State.len | exact State.len.trans State.len.symm | exact Edit.len | exact Edit.len.trans Edit.len.symm | exact nine2_len | exact nine2_len.trans State.len.symm | rfl)) ?_
            refine sw rfl (.u rfl) (.u rfl) rfl Fx.sz27 (.there .here) (by first | exact State.len | exact State.len.trans State.len.symm | exact Edit.len | exact Edit.len.trans Edit.len.symm | exact nine2_len | exact nine2_len.trans State.len.symm | rfl) (State.one') ?_
            refine asg rfl .no (.u rfl) ?_
            refine .nil ?_
            refine .code ?_
            refine .ret ?_
            refine We.fin0 Try.results21 (.cell rfl (fun w hw => run_loadVarN Fx.ag27 (RdN.own .here) ((by first | exact State.len | exact State.len.trans State.len.symm | exact Edit.len | exact Edit.len.trans Edit.len.symm | exact nine2_len | exact nine2_len.trans State.len.symm | rfl)) hw) (.tmp rfl .nil)) ?_
            exact ⟨mkX e Lf, sh, 0, .inr (.inr ⟨hri, rfl, ref_yes hri' hA hml hje c7k⟩), rfl, rfl, hXR (by have := c7k; simp at this; exact this.1)⟩

theorem sameS_ok (a b : State) (ha hb : Nat → Sh) (G : PM) (hA : StR G a ha) (hB : StR G b hb) (ga : ∀ i, i < 5 → u64 (a.gens i)) (gb : ∀ i, i < 5 → u64 (b.gens i)) (hl : ∀ i, i < 5 → (a.lv i).length ≤ 100000000000) : Ct Try.prog 22 ([a.val ha, b.val hb] : List Value).toArray G [] (fun _ μ' u => μ' = [] ∧ u = .bool (sameS a b)) := by
  refine Ct.of Try.func22 rfl Try.ntmps22 rfl fun w0 hs0 => ?_
  refine .seq ?_
  refine Wk.rg [0, 1, 2] rfl rfl ?_
  refine bx rfl (.u rfl) rfl ?_; intro b2
  refine bx rfl (.u rfl) rfl ?_; intro b3
  refine asg rfl .no (.u rfl) ?_
  refine .nil ?_
  refine .code ?_
  refine .seq ?_
  refine .seq ?_
  refine Wk.rg [0] rfl rfl ?_
  refine asg rfl .no (.u rfl) ?_
  refine .nil ?_
  refine .code ?_
  refine .block ?_
  refine Wk.lop (α := Nat) (fun k => [(5, true, .int .i64 (k : Int))]) (fun _ => [])
    (fun k Gl => (k ≤ 5) ∧ (∀ i, i < k → sameM (a.lv i) (b.lv i) = true)) (fun k => 5 - k) 0 [(2, true, _), (3, true, _)] [_, _]
    (ESub.cons rfl (by first | rfl | exact evi (by omega)) (ESub.cons rfl rfl (ESub.cons rfl rfl ESub.nil)))
    (MSub.cons .here rfl (MSub.cons .here rfl MSub.nil)) ?_ ?_
  · refine ⟨?_, ?_⟩
    · (try dsimp only) <;> (first | omega | rfl | assumption | (simp; done))
    · (try dsimp only) <;> (exact fun i hi => by omega)
  intro k N0 Gl0 hN0 hGl0 hF0
  try dsimp only at hF0 hN0 ⊢
  obtain ⟨hk, hq⟩ := hF0
  have hA := hA.mono hGl0
  have hB := hB.mono hGl0
  refine .seq ?_
  refine .seq ?_
  refine Wk.rg [0, 1] rfl rfl ?_
  refine mv rfl .no (.u rfl) ?_
  refine cp rfl .no (.u rfl) (.u rfl) rfl ?_
  refine .nil ?_
  refine .code ?_
  refine .cond rfl (fun c1 => ?_) (fun c1 => ?_)
  · have c1k := c1
    try simp only [decide_eq_true_eq, decide_eq_false_iff_not, Int.not_lt, Int.not_le, gt_iff_lt, ge_iff_le, Bool.or_eq_true, Bool.and_eq_true, Bool.or_eq_false_iff, Bool.not_eq_true', Bool.not_eq_false', Int.toNat_natCast, bne_iff_ne, beq_iff_eq, bne_eq_false_iff_eq, beq_eq_false_iff_ne, ne_eq] at c1
    refine .skip ?_
    refine .code ?_
    refine .seq ?_
    refine .block ?_
    refine .seq ?_
    refine Wk.draw (mc := ⟨false, false⟩) [0, 1, 2, 3, 4, 5, 6, 7, 8, 9] Fx.mix (by kernel_rfl) ?_
    refine mv rfl .no (.u rfl) ?_
    refine fz rfl .no Fx.fo27_0 (.u rfl) ?_
    refine iA rfl .no Fx.ar23 (.u rfl) (.u rfl) (fun _ => by omega) (fun _ => by omega) ?_
    refine ld rfl .no Fx.ag22 (.u rfl) (fun _ => Rd.own (.there .here) (a.cell_lv ha (k := k) (by omega))) ?_
    refine mv rfl .no (.u rfl) ?_
    refine fz rfl .no Fx.fo27_0 (.u rfl) ?_
    refine iA rfl .no Fx.ar23 (.u rfl) (.u rfl) (fun _ => by omega) (fun _ => by omega) ?_
    refine ld rfl .no Fx.ag22 (.u rfl) (fun _ => Rd.own .here (b.cell_lv hb (k := k) (by omega))) ?_
    refine kv rfl .no FxVeSg.go24 (Eva.cons (.u rfl) (Eva.cons (.u rfl) Eva.nil)) (fun _ => sameMetas_ok (ha k) (hb k) _ _ _ (hA.lv k (by omega)) (hB.lv k (by omega)) (hA.wf k (by omega)) (hB.wf k (by omega)) (hl k (by omega))) ?_
    refine nt rfl .no (.u rfl) ?_
    refine .nil ?_
    refine .code ?_
    refine .cond rfl (fun c2 => ?_) (fun c2 => ?_)
    · have c2k := c2
      try simp only [decide_eq_true_eq, decide_eq_false_iff_not, Int.not_lt, Int.not_le, gt_iff_lt, ge_iff_le, Bool.or_eq_true, Bool.and_eq_true, Bool.or_eq_false_iff, Bool.not_eq_true', Bool.not_eq_false', Int.toNat_natCast, bne_iff_ne, beq_iff_eq, bne_eq_false_iff_eq, beq_eq_false_iff_ne, ne_eq] at c2
      refine .seq ?_
      refine Wk.rg [0] rfl rfl ?_
      refine asg rfl .no (.u rfl) ?_
      refine .nil ?_
      refine .code ?_
      refine .ret ?_
      refine We.fin0 Try.results22 (.tmp rfl .nil) ?_
      exact ⟨rfl, congrArg Value.bool (sameS_no (i := k) (by omega) (by simpa using c2k)).symm⟩
    · have c2k := c2
      try simp only [decide_eq_true_eq, decide_eq_false_iff_not, Int.not_lt, Int.not_le, gt_iff_lt, ge_iff_le, Bool.or_eq_true, Bool.and_eq_true, Bool.or_eq_false_iff, Bool.not_eq_true', Bool.not_eq_false', Int.toNat_natCast, bne_iff_ne, beq_iff_eq, bne_eq_false_iff_eq, beq_eq_false_iff_ne, ne_eq] at c2
      refine .skip ?_
      refine .blk ?_
      refine .code ?_
      refine Wk.rg [0, 1, 2] rfl rfl ?_
      refine mv rfl .no (.u rfl) ?_
      refine arn (((k + 1) : Nat) : Int) rfl .no (.u rfl) (.u rfl) rfl (fun _ => by omega) (fun _ => wrap_i64 (by omega) (by omega)) ?_
      refine asg rfl .no (.u rfl) ?_
      refine .nil ?_
      refine We.lpo (k + 1) ?_ ?_ ?_ ?_ ?_
      · exact (ESub.cons rfl (by first | rfl | exact evi (by omega)) (ESub.cons rfl rfl (ESub.cons rfl rfl ESub.nil)))
      · exact (MSub.cons .here rfl (MSub.cons .here rfl MSub.nil))
      · first | omega | (dsimp only; omega)
      · exact hGl0
      · refine ⟨?_, ?_⟩
        · (try dsimp only) <;> (first | omega | rfl | assumption | (simp; done))
        · (try dsimp only) <;> (exact fun i hi => by (by_cases e9 : i = k; (subst e9; simpa using c2k); exact hq i (by omega)))
  · have c1k := c1
    try simp only [decide_eq_true_eq, decide_eq_false_iff_not, Int.not_lt, Int.not_le, gt_iff_lt, ge_iff_le, Bool.or_eq_true, Bool.and_eq_true, Bool.or_eq_false_iff, Bool.not_eq_true', Bool.not_eq_false', Int.toNat_natCast, bne_iff_ne, beq_iff_eq, bne_eq_false_iff_eq, beq_eq_false_iff_ne, ne_eq] at c1
    refine .exit ?_
    refine .xcode ?_
    refine .xlp ?_
    refine .xblk ?_
    refine .code ?_
    refine .seq ?_
    refine Wk.rg [0, 1, 2, 3, 4, 5, 6, 7, 8, 9, 10, 11, 12, 13, 14, 15, 16, 17, 18, 19, 20, 21, 22, 23, 24, 25, 26] rfl rfl ?_
    refine fz rfl .no Fx.fo27_1 (.u rfl) ?_
    refine ld rfl .no Fx.ag24 (.u rfl) (fun _ => Rd.own (.there .here) (by first | exact wap_f rfl | rfl)) ?_
    refine fz rfl .no Fx.fo27_1 (.u rfl) ?_
    refine ld rfl .no Fx.ag24 (.u rfl) (fun _ => Rd.own .here (by first | exact wap_f rfl | rfl)) ?_
    refine cp rfl .no (.u rfl) (.u rfl) rfl ?_
    refine mv rfl .no (.u rfl) ?_
    refine fz rfl (.t rfl rfl) Fx.fo27_2 (.u rfl) ?_
    refine ld rfl (.t rfl rfl) Fx.ag24 (.s rfl) (fun hc => Rd.own (.there .here) (by first | exact wap_f rfl | rfl)) ?_
    refine fz rfl (.t rfl rfl) Fx.fo27_2 (.u rfl) ?_
    refine ld rfl (.t rfl rfl) Fx.ag24 (.s rfl) (fun hc => Rd.own .here (by first | exact wap_f rfl | rfl)) ?_
    refine cp rfl (.t rfl rfl) (.s rfl) (.s rfl) rfl ?_
    refine pkA rfl .no (.u rfl) (.s rfl) ?_
    refine mv rfl .no (.u rfl) ?_
    refine fz rfl (.t rfl rfl) Fx.fo27_3 (.u rfl) ?_
    refine ld rfl (.t rfl rfl) Fx.ag24 (.s rfl) (fun hc => Rd.own (.there .here) (by first | exact wap_f rfl | rfl)) ?_
    refine fz rfl (.t rfl rfl) Fx.fo27_3 (.u rfl) ?_
    refine ld rfl (.t rfl rfl) Fx.ag24 (.s rfl) (fun hc => Rd.own .here (by first | exact wap_f rfl | rfl)) ?_
    refine cp rfl (.t rfl rfl) (.s rfl) (.s rfl) rfl ?_
    refine pkA rfl .no (.u rfl) (.s rfl) ?_
    refine mv rfl .no (.u rfl) ?_
    refine fz rfl (.t rfl rfl) Fx.fo27_5 (.u rfl) ?_
    refine lA rfl (.t rfl rfl) Fx.ag25 (.s rfl) (fun _ => RdN.part (n := 5) (cs' := (List.range 5).map fun i => Value.int .u64 (a.gens i)) (.there .here) (rfl)) (fun _ => rfl) ?_
    refine fz rfl (.t rfl rfl) Fx.fo27_5 (.u rfl) ?_
    refine lA rfl (.t rfl rfl) Fx.ag25 (.s rfl) (fun _ => RdN.part (n := 5) (cs' := (List.range 5).map fun i => Value.int .u64 (b.gens i)) .here (rfl)) (fun _ => rfl) ?_
    refine eqC (eqGenS a b) rfl (.t rfl rfl) FxVeSg.eqt25 (.s rfl) (.s rfl) (fun hc => gensS_conf ga) (fun hc => gensS_conf gb) (fun hc => eqGenS_iff) ?_
    refine pkA rfl .no (.u rfl) (.s rfl) ?_
    refine asg rfl .no (.u rfl) ?_
    refine .nil ?_
    refine .code ?_
    refine .ret ?_
    refine We.fin0 Try.results22 (.tmp rfl .nil) ?_
    exact ⟨rfl, congrArg Value.bool (sameS_yes (fun i hi => hq i (by omega))).symm⟩

end Go.Proofs.Ytnhdaaggkdegpaa

namespace Go.Proofs.Ytnhdaaggkdegpaa
set_option linter.unusedSimpArgs false
set_option linter.unusedVariables false
open Go.Tan Go.RowKit

namespace Fx
theorem eqt25 : eqT Try.prog 4 25 (gensKs) = true := by kernel_rfl
theorem go14 : goFn Try.prog 14 = true := by kernel_rfl
end Fx
end Go.Proofs.Ytnhdaaggkdegpaa

namespace Go.Proofs.Ytnhdaaggkdegpaa
set_option linter.unusedSimpArgs false
set_option linter.unusedVariables false
open Go.Tan Go.RowKit

namespace Fx
theorem go21 : goFn Try.prog 21 = true := by kernel_rfl
theorem go22 : goFn Try.prog 22 = true := by kernel_rfl
theorem co48 : Try.prog.cellsOf 48 = 40 := by kernel_rfl
theorem co27 : Try.prog.cellsOf 27 = 14 := by kernel_rfl
theorem co32 : Try.prog.cellsOf 32 = 11 := by kernel_rfl
theorem co51 : Try.prog.cellsOf 51 = 2 := by kernel_rfl
theorem co3 : Try.prog.cellsOf 3 = 1 := by kernel_rfl
theorem co24 : Try.prog.cellsOf 24 = 1 := by kernel_rfl
theorem co9 : Try.prog.cellsOf 9 = 1 := by kernel_rfl
theorem co23 : Try.prog.cellsOf 23 = 5 := by kernel_rfl
theorem co25 : Try.prog.cellsOf 25 = 5 := by kernel_rfl
theorem co46 : Try.prog.cellsOf 46 = 32 := by kernel_rfl
theorem co22 : Try.prog.cellsOf 22 = 1 := by kernel_rfl
theorem co30 : Try.prog.cellsOf 30 = 1 := by kernel_rfl
theorem co5 : Try.prog.cellsOf 5 = 1 := by kernel_rfl
end Fx
theorem VersionApplies_ok (s : State) (hd : Nat → Sh) (e : Edit) (ha he : Sh) (G : PM) (hs : StR G s hd) (hE : EdR G e ha he) : Ct Try.prog 5 ([s.val hd, e.val ha he] : List Value).toArray G [] (fun _ μ' u => μ' = [] ∧ u = .bool true) := by
  refine Ct.of Try.func5 rfl Try.ntmps5 rfl fun w0 hs0 => ?_
  refine .seq ?_
  refine Wk.rg [0, 1, 2] rfl rfl ?_
  refine bx rfl (.u rfl) rfl ?_; intro b2
  refine bx rfl (.u rfl) rfl ?_; intro b3
  refine asg rfl .no (.u rfl) ?_
  refine .nil ?_
  refine .code ?_
  refine .seq ?_
  refine Wk.rg [0, 1] rfl rfl ?_
  refine kv rfl .no Fx.go10 Eva.nil (fun _ => shown18_ok _) ?_
  refine asg rfl .no (.u rfl) ?_
  refine .nil ?_
  refine .code ?_
  refine .seq ?_
  refine .seq ?_
  refine Wk.rg [0, 1, 2, 3, 4, 5, 6, 7] rfl rfl ?_
  refine lA rfl .no Fx.ag27 (.u rfl) (fun _ => RdN.own (.there .here)) (fun _ => (by first | exact State.len | exact State.len.trans State.len.symm | exact Edit.len | exact Edit.len.trans Edit.len.symm | exact nine2_len | exact nine2_len.trans State.len.symm | rfl)) ?_
  refine kv rfl .no Fx.go11 (Eva.cons (.u rfl) Eva.nil) (fun _ => light_ok s hd _ hs) ?_
  refine nt rfl .no (.u rfl) ?_
  refine mv rfl .no (.u rfl) ?_
  refine lA rfl (.f rfl rfl) Fx.ag32 (.u rfl) (fun _ => RdN.own .here) (fun _ => (by first | exact State.len | exact State.len.trans State.len.symm | exact Edit.len | exact Edit.len.trans Edit.len.symm | exact nine2_len | exact nine2_len.trans State.len.symm | rfl)) ?_
  refine kv rfl (.f rfl rfl) Fx.go14 (Eva.cons (.s rfl) Eva.nil) (fun hc => few_ok e ha he _) ?_
  refine nt rfl (.f rfl rfl) (.s rfl) ?_
  refine pkO rfl .no (.u rfl) (.s rfl) ?_
  refine .nil ?_
  refine .code ?_
  refine .cond rfl (fun c1 => ?_) (fun c1 => ?_)
  · have c1k := c1
    try simp only [decide_eq_true_eq, decide_eq_false_iff_not, Int.not_lt, Int.not_le, gt_iff_lt, ge_iff_le, Bool.or_eq_true, Bool.and_eq_true, Bool.or_eq_false_iff, Bool.and_eq_false_iff, Bool.not_eq_true', Bool.not_eq_false', Int.toNat_natCast, bne_iff_ne, beq_iff_eq, bne_eq_false_iff_eq, beq_eq_false_iff_ne, ne_eq] at c1
    refine .seq ?_
    refine Wk.rg [0, 1] rfl rfl ?_
    refine mv rfl .no (.u rfl) ?_
    refine asg rfl .no (.u rfl) ?_
    refine .nil ?_
    refine .code ?_
    refine .ret ?_
    refine We.fin0 Try.results5 (.tmp rfl .nil) ?_
    exact ⟨rfl, rfl⟩
  · have c1k := c1
    try simp only [decide_eq_true_eq, decide_eq_false_iff_not, Int.not_lt, Int.not_le, gt_iff_lt, ge_iff_le, Bool.or_eq_true, Bool.and_eq_true, Bool.or_eq_false_iff, Bool.and_eq_false_iff, Bool.not_eq_true', Bool.not_eq_false', Int.toNat_natCast, bne_iff_ne, beq_iff_eq, bne_eq_false_iff_eq, beq_eq_false_iff_ne, ne_eq] at c1
    refine .skip ?_
    refine .code ?_
    refine .seq ?_
    refine Wk.rg [0, 1, 2, 3, 4, 5, 6, 7, 8] rfl rfl ?_
    refine lA rfl .no Fx.ag27 (.u rfl) (fun _ => RdN.own (.there .here)) (fun _ => (by first | exact State.len | exact State.len.trans State.len.symm | exact Edit.len | exact Edit.len.trans Edit.len.symm | exact nine2_len | exact nine2_len.trans State.len.symm | rfl)) ?_
    refine lA rfl .no Fx.ag32 (.u rfl) (fun _ => RdN.own .here) (fun _ => (by first | exact State.len | exact State.len.trans State.len.symm | exact Edit.len | exact Edit.len.trans Edit.len.symm | exact nine2_len | exact nine2_len.trans State.len.symm | rfl)) ?_
    refine kc rfl Fx.go20 (Eva.cons (.u rfl) (Eva.cons (.u rfl) Eva.nil)) (apply_ok s hd e ha he _ hs hE) ?_
    rintro _ G23 μ23 hG23 ⟨X23, hX23, er23, hA23, rfl, rfl, hR23⟩
    have hs := hs.mono hG23
    have hE := hE.mono hG23
    refine mv rfl .no (.u rfl) ?_
    refine ex rfl .no (.u rfl) rfl ?_
    refine ex rfl .no (.u rfl) rfl ?_
    refine al rfl Fx.zr27 ?_; intro b6
    refine sw rfl (.u rfl) (.u rfl) rfl Fx.sz27 .here (by first | exact State.len | exact State.len.trans State.len.symm | exact Edit.len | exact Edit.len.trans Edit.len.symm | exact nine2_len | exact nine2_len.trans State.len.symm | rfl) (State.one') ?_
    refine asg rfl .no (.u rfl) ?_
    refine .nil ?_
    refine .code ?_
    refine .seq ?_
    refine Wk.rg [0, 1, 2, 3, 4, 5, 6, 7, 8] rfl rfl ?_
    refine lA rfl .no Fx.ag27 (.u rfl) (fun _ => RdN.own (.there (.there .here))) (fun _ => (by first | exact State.len | exact State.len.trans State.len.symm | exact Edit.len | exact Edit.len.trans Edit.len.symm | exact nine2_len | exact nine2_len.trans State.len.symm | rfl)) ?_
    refine lA rfl .no Fx.ag32 (.u rfl) (fun _ => RdN.own (.there .here)) (fun _ => (by first | exact State.len | exact State.len.trans State.len.symm | exact Edit.len | exact Edit.len.trans Edit.len.symm | exact nine2_len | exact nine2_len.trans State.len.symm | rfl)) ?_
    refine kc rfl Fx.go21 (Eva.cons (.u rfl) (Eva.cons (.u rfl) Eva.nil)) (rapply_ok s hd e ha he _ hs hE) ?_
    rintro _ G29 μ29 hG29 ⟨X29, hX29, er29, hA29, rfl, rfl, hR29⟩
    have hs := hs.mono hG29
    have hE := hE.mono hG29
    have hR23 := hR23.mono hG29
    refine mv rfl .no (.u rfl) ?_
    refine ex rfl .no (.u rfl) rfl ?_
    refine ex rfl .no (.u rfl) rfl ?_
    refine al rfl Fx.zr27 ?_; intro b8
    refine sw rfl (.u rfl) (.u rfl) rfl Fx.sz27 .here (by first | exact State.len | exact State.len.trans State.len.symm | exact Edit.len | exact Edit.len.trans Edit.len.symm | exact nine2_len | exact nine2_len.trans State.len.symm | rfl) (State.one') ?_
    refine asg rfl .no (.u rfl) ?_
    refine .nil ?_
    obtain ⟨hdet, rfl⟩ := hA23.det hA29
    refine .code ?_
    refine .seq ?_
    refine Wk.rg [0, 1, 2, 3, 4, 5, 6, 7, 8, 9, 10, 11] rfl rfl ?_
    refine mv rfl .no (.u rfl) ?_
    refine mv rfl .no (.u rfl) ?_
    refine lA rfl (.t rfl rfl) Fx.ag27 (.u rfl) (fun _ => RdN.own (.there .here)) (fun _ => (by first | exact State.len | exact State.len.trans State.len.symm | exact Edit.len | exact Edit.len.trans Edit.len.symm | exact nine2_len | exact nine2_len.trans State.len.symm | rfl)) ?_
    refine lA rfl (.t rfl rfl) Fx.ag27 (.u rfl) (fun _ => RdN.own .here) (fun _ => (by first | exact State.len | exact State.len.trans State.len.symm | exact Edit.len | exact Edit.len.trans Edit.len.symm | exact nine2_len | exact nine2_len.trans State.len.symm | rfl)) ?_
    refine kv rfl (.t rfl rfl) Fx.go22 (Eva.cons (.u rfl) (Eva.cons (.u rfl) Eva.nil)) (fun _ => sameS_ok X23 X29 _ _ _ hR23 hR29 (hA23.gens hE.wf) (hA29.gens hE.wf) (fun i hi => by have := hA23.len hi; omega)) ?_
    refine wo_b true (sameS_of hdet) ?_
    refine pkA rfl .no (.u rfl) (.u rfl) ?_
    refine mv rfl .no (.u rfl) ?_
    refine mv rfl (.t rfl rfl) (.u rfl) ?_
    refine mv rfl (.t rfl rfl) (.u rfl) ?_
    refine cp rfl (.t rfl rfl) (.u rfl) (.u rfl) rfl ?_
    refine pkA rfl .no (.u rfl) (.u rfl) ?_
    refine asg rfl .no (.u rfl) ?_
    refine .nil ?_
    refine .code ?_
    refine .ret ?_
    refine We.fin0 Try.results5 (.tmp rfl .nil) ?_
    exact ⟨rfl, congrArg Value.bool (by simp)⟩

end Go.Proofs.Ytnhdaaggkdegpaa
