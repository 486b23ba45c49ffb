/- Contracts of functions, walked. -/
import Derived.Test.YtoogjfldgeiapaaDoorWalH
namespace Go.Proofs.YtoogjfldgeiapaaDoor
set_option linter.unusedSimpArgs false
set_option linter.unusedVariables false
open Go.Tan Go.RowKit

namespace Fx
theorem cv64_3 : cvK Tryd.prog 64 3 = some .i64 := by kernel_rfl
theorem sn57 : (slE Tryd.prog 57).isSome = true := by kernel_rfl
end Fx
theorem WalCut_ok (root : Nat → Y) (h : Hd) (ps : List (Sh × List Y)) (hl : Sh) (cut : BitVec 64) (G : PM) (hs : SlP G hl ps) (hK : RdNP G 1 0 (wa 64 kW)) (hb : ps.length ≤ 1000000000000000) : Ct Tryd.prog 12 ([.agg (ba 32 root ++ [V h.kind, V h.level, uv .u64 h.gen, uv .u64 h.epoch, uv .u64 h.num]).toArray, hl.val ps.length, uv .u64 cut] : List Value).toArray G [] (fun _ μ' u => μ' = [] ∧ u = .bool true) := by
  refine Ct.of Tryd.func12 rfl Tryd.ntmps12 rfl fun w0 hs0 => ?_
  have hF : SlP G hl (fewL ps) := hs.tk _
  have hFb := few_short ps
  have hFn := few_count ps
  have hLl := log_le (root := root) (h := h) hFb (by omega)
  refine .seq ?_
  refine Wk.rg [0, 1] rfl rfl ?_
  refine bx rfl (.u rfl) rfl ?_; intro b3
  refine asg rfl .no (.u rfl) ?_
  refine .nil ?_
  refine .code ?_
  refine .seq ?_
  refine Wk.rg [0, 1] rfl rfl ?_
  refine kv rfl .no FxWalH.go22 Eva.nil (fun _ => shown16_ok _ hK) ?_
  refine asg rfl .no (.u rfl) ?_
  refine .nil ?_
  refine .code ?_
  refine .seq ?_
  refine Wk.draw (mc := ⟨false, false⟩) [0, 1, 2, 3, 4, 5, 6, 7, 8, 9, 10] Fx.mix (by kernel_rfl) ?_
  refine lA rfl .no Fx.ag47 (.u rfl) (fun _ => RdN.own .here) (fun _ => (by first | exact (ba_len _ _).trans (ba_len _ _).symm | exact (wa_len _ _).trans (wa_len _ _).symm | exact ba_len _ _ | exact wa_len _ _ | rfl | (simp only [wa_len, ba_len, List.length_append, List.length_cons, List.length_nil]))) ?_
  refine mv rfl .no (.u rfl) ?_
  refine kv rfl .no Fx.go29 (Eva.cons (.u rfl) Eva.nil) (fun _ => few16_ok ps hl _ hs hb) ?_
  refine kc rfl Fx.go28 (Eva.cons (.u rfl) (Eva.cons (.u rfl) Eva.nil)) (laid16_ok root h (fewL ps) hl _ hF hK (by omega) hFb) ?_
  rintro _ G22 μ22 hG22 ⟨v22, B, ve22, es, eB, eE, rfl, rfl⟩
  have hs := hs.mono hG22
  have hK := hK.mono hG22
  have hF := hF.mono hG22
  refine mv rfl .no (.u rfl) ?_
  refine ex rfl .no (.u rfl) rfl ?_
  refine ex rfl .no (.u rfl) rfl ?_
  refine ex rfl .no (.u rfl) rfl ?_
  refine asg rfl .no (.u rfl) ?_
  refine asg rfl .no (.u rfl) ?_
  refine asg rfl .no (.u rfl) ?_
  refine .nil ?_
  rw [← eB] at hLl
  have lE : es.length = (fewL ps).length := by rw [eE, ends_len]
  refine .code ?_
  refine .seq ?_
  refine .seq ?_
  refine Wk.rg [0, 1, 2, 3, 4, 5, 6, 7] rfl rfl ?_
  refine mv rfl .no (.u rfl) ?_
  refine nt rfl .no (.u rfl) ?_
  refine mv rfl .no (.u rfl) ?_
  refine fz rfl (.f rfl rfl) FxWalG.fo47_1 (.u rfl) ?_
  refine lA rfl (.f rfl rfl) Fx.ag45 (.s rfl) (fun _ => RdN.part (n := 5) (cs' := [V h.kind, V h.level, uv .u64 h.gen, uv .u64 h.epoch, uv .u64 h.num]) (.there (.there .here)) (of_r rfl)) (fun _ => rfl) ?_
  refine kv rfl (.f rfl rfl) Fx.go30 (Eva.cons (.s rfl) Eva.nil) (fun hc => nRight_ok h _) ?_
  refine nt rfl (.f rfl rfl) (.s rfl) ?_
  refine pkO rfl .no (.u rfl) (.s rfl) ?_
  refine .nil ?_
  refine .code ?_
  refine .cond rfl (fun c1 => ?_) (fun c1 => ?_)
  · have c1k := c1
    try simp only [decide_eq_true_eq, decide_eq_false_iff_not, Int.not_lt, Int.not_le, gt_iff_lt, ge_iff_le, Bool.or_eq_true, Bool.and_eq_true, Bool.or_eq_false_iff, Bool.and_eq_false_iff, Bool.not_eq_true', Bool.not_eq_false', Int.toNat_natCast, bne_iff_ne, beq_iff_eq, bne_eq_false_iff_eq, beq_eq_false_iff_ne, ne_eq] at c1
    refine .seq ?_
    refine Wk.rg [0, 1, 2, 3, 4] rfl rfl ?_
    refine mv rfl .no (.u rfl) ?_
    refine mv rfl .no (.u rfl) ?_
    refine mv rfl (.t rfl rfl) (.u rfl) ?_
    refine pkA rfl .no (.u rfl) (.s rfl) ?_
    refine asg rfl .no (.u rfl) ?_
    refine .nil ?_
    refine .code ?_
    refine .ret ?_
    refine We.fin0 Tryd.results12 (.tmp rfl .nil) ?_
    exact ⟨rfl, rfl⟩
  · have c1k := c1
    have hr : h.right = true := by simpa using c1k
    refine .skip ?_
    refine .code ?_
    refine .seq ?_
    refine Wk.rg [0, 1, 2, 3, 4, 5, 6, 7] rfl rfl ?_
    refine mv rfl .no (.u rfl) ?_
    refine mv rfl .no (.u rfl) ?_
    refine lr rfl .no Fx.sn27 (.u rfl) .here ?_
    refine arn (((B.length + 1) : Nat) : Int) rfl .no (.u rfl) (.u rfl) rfl (fun _ => by omega) (fun _ => wrap_i64 (by omega) (by omega)) ?_
    refine ci rfl .no rfl Fx.cv3_64 (.u rfl) ?_
    refine mw (k := .u64) rfl .no (.u rfl) (.u rfl) (fun _ => nz64 (by omega) (by omega)) ?_
    refine cnb (k := .u64) rfl .no Fx.cv64_3 (.u rfl) (fun _ => Nat.le_trans (Nat.le_of_lt (modu (by omega) (by omega))) (by omega)) ?_; intro q eq44
    refine asg rfl .no (.u rfl) ?_
    refine .nil ?_
    have hq : q < B.length + 1 := by rw [eq44]; exact modu (by omega) (by omega)
    refine .code ?_
    refine .seq ?_
    refine Wk.rg [0, 1] rfl rfl ?_
    refine asg rfl .no (.u rfl) ?_
    refine asg rfl .no (.u rfl) ?_
    refine .nil ?_
    refine .code ?_
    refine .seq ?_
    refine .seq ?_
    refine wk_fs (.there .here) (fun _ _ => rfl) (by intro b hb; cases hb) ?_; intro GfRE hRE hleRE evRE hsRE; subst evRE
    have hs := hs.mono hleRE
    have hK := hK.mono hleRE
    have hF := hF.mono hleRE
    refine Wk.rg [0, 1, 2] rfl rfl ?_
    refine mv rfl .no (.u rfl) ?_
    refine ln rfl .no Fx.sn57 (.u rfl) ?_
    refine mv rfl .no (.u rfl) ?_
    refine .nil ?_
    refine .code ?_
    refine .block ?_
    refine Wk.lop (α := Nat × Nat × Nat) (fun gh => [(12, true, .int .i64 (gh.2.1 : Int)), (13, true, .int .i64 (gh.2.2 : Int)), (47, true, .int .i64 (gh.1 : Int))]) (fun _ => [])
      (fun gh Gl => (gh.1 ≤ es.length) ∧ (gh.2.1 ≤ gh.1) ∧ (gh.2.2 = 30 + endL (sealAt root h) 0 ((fewL ps).map (·.2)) gh.2.1) ∧ (gh.2.1 = 0 ∨ gh.2.2 ≤ q) ∧ (∀ j, gh.2.1 ≤ j → j < gh.1 → q < 30 + endL (sealAt root h) 0 ((fewL ps).map (·.2)) (j + 1))) (fun gh => es.length - gh.1) (0, 0, 30) [(1, true, _), (3, true, _), (7, true, _), (8, true, _), (9, true, _), (11, true, _), (46, true, _)] [_, _]
      (ESub.cons rfl (by first | rfl | exact evi (by omega)) (ESub.cons rfl (by first | rfl | exact evi (by omega)) (ESub.cons rfl (by first | rfl | exact evi (by omega)) (ESub.cons rfl rfl (ESub.cons rfl rfl (ESub.cons rfl rfl (ESub.cons rfl rfl (ESub.cons rfl rfl (ESub.cons rfl rfl (ESub.cons rfl rfl ESub.nil))))))))))
      (MSub.cons .here rfl (MSub.cons .here rfl MSub.nil)) ?_ ?_
    · refine ⟨?_, ?_, ?_, ?_, ?_⟩
      · (try dsimp only) <;> (first | omega | rfl | assumption | (simp; done))
      · (try dsimp only) <;> (first | omega | rfl | assumption | (simp; done))
      · (try dsimp only) <;> (rw [end_zero])
      · (try dsimp only) <;> (exact .inl rfl)
      · (try dsimp only) <;> (exact fun j _ hj => absurd hj (Nat.not_lt_zero j))
    intro gh N0 Gl0 hN0 hGl0 hF0
    obtain ⟨i, n, u⟩ := gh; dsimp only at hF0 hN0 ⊢
    obtain ⟨hi, hn, hu, h1, h2⟩ := hF0
    have hs := hs.mono hGl0
    have hK := hK.mono hGl0
    have hF := hF.mono hGl0
    have hsRE := hsRE.mono hGl0
    refine .seq ?_
    refine Wk.rg [0] rfl rfl ?_
    refine cp rfl .no (.u rfl) (.u rfl) rfl ?_
    refine .nil ?_
    refine .code ?_
    refine .seq ?_
    refine .cond rfl (fun c2 => ?_) (fun c2 => ?_)
    · have c2k := c2
      try simp only [decide_eq_true_eq, decide_eq_false_iff_not, Int.not_lt, Int.not_le, gt_iff_lt, ge_iff_le, Bool.or_eq_true, Bool.and_eq_true, Bool.or_eq_false_iff, Bool.and_eq_false_iff, Bool.not_eq_true', Bool.not_eq_false', Int.toNat_natCast, bne_iff_ne, beq_iff_eq, bne_eq_false_iff_eq, beq_eq_false_iff_ne, ne_eq] at c2
      refine .skip ?_
      refine .code ?_
      refine .seq ?_
      refine .block ?_
      refine .seq ?_
      refine Wk.rg [0, 1] rfl rfl ?_
      refine mv rfl .no (.u rfl) ?_
      refine asg rfl .no (.u rfl) ?_
      refine .nil ?_
      refine .code ?_
      refine .seq ?_
      refine Wk.rg [0, 1, 2, 3, 4, 5] rfl rfl ?_
      refine mv rfl .no (.u rfl) ?_
      refine mv rfl .no (.u rfl) ?_
      refine ih rfl .no Fx.se57 (.u rfl) (.u rfl) (fun _ => by omega) (fun _ => by omega) (fun _ => hsRE.nn (k := i) (by omega)) ?_
      obtain ⟨x53, ex53⟩ := getx (k := i) (xs := es) (by omega)
      refine ld rfl .no Fx.ag3 (.u rfl) (fun _ => (hsRE.n1 (i) (by omega) ex53).rd) ?_
      refine mv rfl .no (.u rfl) ?_
      refine cp rfl .no (.u rfl) (.u rfl) rfl ?_
      refine .nil ?_
      refine .code ?_
      refine .cond rfl (fun c3 => ?_) (fun c3 => ?_)
      · have c3k := c3
        try simp only [decide_eq_true_eq, decide_eq_false_iff_not, Int.not_lt, Int.not_le, gt_iff_lt, ge_iff_le, Bool.or_eq_true, Bool.and_eq_true, Bool.or_eq_false_iff, Bool.and_eq_false_iff, Bool.not_eq_true', Bool.not_eq_false', Int.toNat_natCast, bne_iff_ne, beq_iff_eq, bne_eq_false_iff_eq, beq_eq_false_iff_ne, ne_eq] at c3
        refine Wk.draw (mc := ⟨false, false⟩) [0, 1, 2, 3, 4, 5, 6, 7] Fx.mix (by kernel_rfl) ?_
        refine mv rfl .no (.u rfl) ?_
        refine arn (((i + 1) : Nat) : Int) rfl .no (.u rfl) (.u rfl) rfl (fun _ => by omega) (fun _ => wrap_i64 (by omega) (by omega)) ?_
        refine mv rfl .no (.u rfl) ?_
        refine mv rfl .no (.u rfl) ?_
        refine ih rfl .no Fx.se57 (.u rfl) (.u rfl) (fun _ => by omega) (fun _ => by omega) (fun _ => hsRE.nn (k := i) (by omega)) ?_
        obtain ⟨x61, ex61⟩ := getx (k := i) (xs := es) (by omega)
        refine ld rfl .no Fx.ag3 (.u rfl) (fun _ => (hsRE.n1 (i) (by omega) ex61).rd) ?_
        refine asg rfl .no (.u rfl) ?_
        refine asg rfl .no (.u rfl) ?_
        refine .nil ?_
        refine .blk ?_
        refine .code ?_
        refine Wk.rg [0, 1] rfl rfl ?_
        refine arn (((i + 1) : Nat) : Int) rfl .no (.u rfl) (.u rfl) rfl (fun _ => by omega) (fun _ => wrap_i64 (by omega) (by omega)) ?_
        refine mv rfl .no (.u rfl) ?_
        refine .nil ?_
        refine We.lpo (i + 1, i + 1, x61) ?_ ?_ ?_ ?_ ?_
        · exact (ESub.cons rfl (by first | rfl | exact evi (by omega)) (ESub.cons rfl (by first | rfl | exact evi (by omega)) (ESub.cons rfl (by first | rfl | exact evi (by omega)) (ESub.cons rfl rfl (ESub.cons rfl rfl (ESub.cons rfl rfl (ESub.cons rfl rfl (ESub.cons rfl rfl (ESub.cons rfl rfl (ESub.cons rfl rfl ESub.nil))))))))))
        · exact (MSub.cons .here rfl (MSub.cons .here rfl MSub.nil))
        · first | omega | (dsimp only; omega)
        · exact hGl0
        · refine ⟨?_, ?_, ?_, ?_, ?_⟩
          · (try dsimp only) <;> (first | omega | rfl | assumption | (simp; done))
          · (try dsimp only) <;> (first | omega | rfl | assumption | (simp; done))
          · (try dsimp only) <;> (rw [eE] at ex61; exact ends_at ex61)
          · (try dsimp only) <;> (obtain rfl := Option.some.inj (ex61.symm.trans ex53); exact .inr (by omega))
          · (try dsimp only) <;> (exact fun j a b => absurd b (by omega))
      · have c3k := c3
        try simp only [decide_eq_true_eq, decide_eq_false_iff_not, Int.not_lt, Int.not_le, gt_iff_lt, ge_iff_le, Bool.or_eq_true, Bool.and_eq_true, Bool.or_eq_false_iff, Bool.and_eq_false_iff, Bool.not_eq_true', Bool.not_eq_false', Int.toNat_natCast, bne_iff_ne, beq_iff_eq, bne_eq_false_iff_eq, beq_eq_false_iff_ne, ne_eq] at c3
        refine .skip ?_
        refine .blk ?_
        refine .code ?_
        refine Wk.rg [0, 1] rfl rfl ?_
        refine arn (((i + 1) : Nat) : Int) rfl .no (.u rfl) (.u rfl) rfl (fun _ => by omega) (fun _ => wrap_i64 (by omega) (by omega)) ?_
        refine mv rfl .no (.u rfl) ?_
        refine .nil ?_
        refine We.lpo (i + 1, n, u) ?_ ?_ ?_ ?_ ?_
        · exact (ESub.cons rfl (by first | rfl | exact evi (by omega)) (ESub.cons rfl (by first | rfl | exact evi (by omega)) (ESub.cons rfl (by first | rfl | exact evi (by omega)) (ESub.cons rfl rfl (ESub.cons rfl rfl (ESub.cons rfl rfl (ESub.cons rfl rfl (ESub.cons rfl rfl (ESub.cons rfl rfl (ESub.cons rfl rfl ESub.nil))))))))))
        · exact (MSub.cons .here rfl (MSub.cons .here rfl MSub.nil))
        · first | omega | (dsimp only; omega)
        · exact hGl0
        · refine ⟨?_, ?_, ?_, ?_, ?_⟩
          · (try dsimp only) <;> (first | omega | rfl | assumption | (simp; done))
          · (try dsimp only) <;> (first | omega | rfl | assumption | (simp; done))
          · (try dsimp only) <;> (exact hu)
          · (try dsimp only) <;> (exact h1)
          · (try dsimp only) <;> (intro j a b; rw [eE] at ex53; by_cases hj : j = i; (rw [hj, ← ends_at ex53]; omega); exact h2 j a (by omega))
    · have c2k := c2
      try simp only [decide_eq_true_eq, decide_eq_false_iff_not, Int.not_lt, Int.not_le, gt_iff_lt, ge_iff_le, Bool.or_eq_true, Bool.and_eq_true, Bool.or_eq_false_iff, Bool.and_eq_false_iff, Bool.not_eq_true', Bool.not_eq_false', Int.toNat_natCast, bne_iff_ne, beq_iff_eq, bne_eq_false_iff_eq, beq_eq_false_iff_ne, ne_eq] at c2
      refine .exit ?_
      refine .xcode ?_
      refine .xlp ?_
      refine .xblk ?_
      refine .code ?_
      refine .seq ?_
      refine wk_fb .here (by first | (intro b hb; cases hb; done) | simp [keys, Res.keys]) ?_; intro GfRB hRB hleRB evRB hsRB; subst evRB
      have hs := hs.mono hleRB
      have hK := hK.mono hleRB
      have hF := hF.mono hleRB
      have hsRE := hsRE.mono hleRB
      refine Wk.draw (mc := ⟨false, false⟩) [0, 1, 2, 3, 4, 5, 6, 7, 8, 9, 10, 11] Fx.mix (by kernel_rfl) ?_
      refine fz rfl .no FxWalG.fo47_0 (.u rfl) ?_
      refine lA rfl .no Fx.ag42 (.u rfl) (fun _ => RdN.part (n := 32) (cs' := ba 32 root) .here (app_l)) (fun _ => (by first | exact (ba_len _ _).trans (ba_len _ _).symm | exact (wa_len _ _).trans (wa_len _ _).symm | exact ba_len _ _ | exact wa_len _ _ | rfl | (simp only [wa_len, ba_len, List.length_append, List.length_cons, List.length_nil]))) ?_
      refine mv rfl .no (.u rfl) ?_
      refine mv rfl .no (.u rfl) ?_
      refine kE (q) rfl .no Fx.se27 hsRB (.u rfl) (.u rfl) (fun _ => by omega) (fun _ => by omega) ?_
      intro h68 L68 eL68 lL68 hs68
      have lL68 := lL68 rfl
      refine kc rfl Fx.go25 (Eva.cons (.u rfl) (Eva.cons (.u rfl) Eva.nil)) (wRead_o root L68 h68 _ hs68 hK (by omega)) ?_
      rintro _ G69 μ69 hG69 ⟨RP69, sR69, pR69, eR69, hP69, eP69, rfl, rfl⟩
      have hs := hs.mono hG69
      have hK := hK.mono hG69
      have hF := hF.mono hG69
      have hsRE := hsRE.mono hG69
      have hsRB := hsRB.mono hG69
      have hs68 := hs68.mono hG69
      refine mv rfl .no (.u rfl) ?_
      refine ex rfl .no (.u rfl) rfl ?_
      refine ex rfl .no (.u rfl) rfl ?_
      refine al rfl Fx.zr52 ?_; intro b15
      refine sw rfl (.u rfl) (.u rfl) rfl Fx.sz52 .here (by first | exact (ba_len _ _).trans (ba_len _ _).symm | exact (wa_len _ _).trans (wa_len _ _).symm | exact ba_len _ _ | exact wa_len _ _ | rfl | (simp only [wa_len, ba_len, List.length_append, List.length_cons, List.length_nil])) (one8 rfl rfl rfl rfl rfl rfl rfl rfl) ?_
      refine asg rfl .no (.u rfl) ?_
      refine .nil ?_
      refine .code ?_
      refine .seq ?_
      refine .seq ?_
      refine Wk.rg [0, 1] rfl rfl ?_
      refine mv rfl .no (.u rfl) ?_
      refine cp rfl .no (.u rfl) (.u rfl) rfl ?_
      refine .nil ?_
      refine .code ?_
      refine .cond rfl (fun c4 => ?_) (fun c4 => ?_)
      · have c4k := c4
        try simp only [decide_eq_true_eq, decide_eq_false_iff_not, Int.not_lt, Int.not_le, gt_iff_lt, ge_iff_le, Bool.or_eq_true, Bool.and_eq_true, Bool.or_eq_false_iff, Bool.and_eq_false_iff, Bool.not_eq_true', Bool.not_eq_false', Int.toNat_natCast, bne_iff_ne, beq_iff_eq, bne_eq_false_iff_eq, beq_eq_false_iff_ne, ne_eq] at c4
        refine .seq ?_
        refine Wk.rg [0, 1, 2, 3, 4, 5, 6, 7, 8, 9, 10, 11, 12, 13, 14, 15, 16, 17, 18, 19, 20, 21, 22, 23, 24, 25, 26] rfl rfl ?_
        refine mv rfl .no (.u rfl) ?_
        refine mv rfl .no (.u rfl) ?_
        refine mv rfl (.t rfl rfl) (.u rfl) ?_
        refine cp rfl (.t rfl rfl) (.s rfl) (.u rfl) rfl ?_
        refine pkA rfl .no (.u rfl) (.s rfl) ?_
        refine mv rfl .no (.u rfl) ?_
        refine fz rfl (.t rfl rfl) Fx.fo52_3 (.u rfl) ?_
        refine ld rfl (.t rfl rfl) Fx.ag4 (.s rfl) (fun hc => Rd.own .here (by first | exact wap_f rfl | rfl)) ?_
        refine pkA rfl .no (.u rfl) (.s rfl) ?_
        refine mv rfl .no (.u rfl) ?_
        refine fz rfl (.t rfl rfl) Fx.fo52_1 (.u rfl) ?_
        refine ld rfl (.t rfl rfl) Fx.ag50 (.s rfl) (fun hc => Rd.own .here (by first | exact wap_f rfl | rfl)) ?_
        refine ln rfl (.t rfl rfl) Fx.sn50 (.s rfl) ?_
        refine cp rfl (.t rfl rfl) (.s rfl) (.u rfl) rfl ?_
        refine pkA rfl .no (.u rfl) (.s rfl) ?_
        refine mv rfl .no (.u rfl) ?_
        refine fz rfl (.t rfl rfl) Fx.fo52_2 (.u rfl) ?_
        refine ld rfl (.t rfl rfl) Fx.ag3 (.s rfl) (fun hc => Rd.own .here (by first | exact wap_f rfl | rfl)) ?_
        refine cp rfl (.t rfl rfl) (.s rfl) (.u rfl) rfl ?_
        refine pkA rfl .no (.u rfl) (.s rfl) ?_
        refine mv rfl .no (.u rfl) ?_
        refine fz rfl (.t rfl rfl) Fx.fo52_0 (.u rfl) ?_
        refine lA rfl (.t rfl rfl) Fx.ag45 (.s rfl) (fun _ => RdN.part (n := 5) (cs' := [V RP69.1.hd.kind, V RP69.1.hd.level, uv .u64 RP69.1.hd.gen, uv .u64 RP69.1.hd.epoch, uv .u64 RP69.1.hd.num]) .here (rfl)) (fun _ => rfl) ?_
        refine bC rfl (.t rfl rfl) Fx.bp45_ .nil rfl ?_
        refine eqC (decide (RP69.1.hd = Hd.zero)) rfl (.t rfl rfl) Fx.eqt45 (.s rfl) (.s rfl) (fun hc => hd_conf _) (fun hc => hd_conf Hd.zero) (fun hc => hd_iff) ?_
        refine pkA rfl .no (.u rfl) (.s rfl) ?_
        refine asg rfl .no (.u rfl) ?_
        refine .nil ?_
        refine .code ?_
        refine .ret ?_
        refine We.fin0 Tryd.results12 (.tmp rfl .nil) ?_
        rw [read_short (by omega)] at eR69
        obtain rfl : pR69 = [] := by have h9 := eP69; rw [eR69] at h9; exact List.map_eq_nil_iff.1 h9
        refine ⟨rfl, congrArg Value.bool ?_⟩
        rw [eR69]; simp
      · have c4k := c4
        try simp only [decide_eq_true_eq, decide_eq_false_iff_not, Int.not_lt, Int.not_le, gt_iff_lt, ge_iff_le, Bool.or_eq_true, Bool.and_eq_true, Bool.or_eq_false_iff, Bool.and_eq_false_iff, Bool.not_eq_true', Bool.not_eq_false', Int.toNat_natCast, bne_iff_ne, beq_iff_eq, bne_eq_false_iff_eq, beq_eq_false_iff_ne, ne_eq] at c4
        have lF : ((fewL ps).map (·.2)).length = (fewL ps).length := List.length_map ..
        obtain ⟨n2, g1, g2, g3, g4⟩ := log_cut (root := root) (h := h) ((fewL ps).map (·.2)) (k := q) hr (by omega) (by rw [← eB]; omega)
        rw [← eB, ← eL68] at g4
        obtain rfl : n = n2 := cut_same (by rw [← hu]; exact h1) (fun j a b => h2 j a (by omega)) (by omega) g1 g2 g3
        rw [← hu] at g4
        have eR69 := eR69.trans g4
        refine .skip ?_
        refine .code ?_
        refine .seq ?_
        refine Wk.draw (mc := ⟨false, false⟩) [0, 1, 2, 3, 4, 5, 6, 7, 8, 10, 9, 11, 12, 13, 14, 15, 16, 17, 18, 19, 20, 21, 22, 23, 24, 25, 26, 27] Fx.mix (by kernel_rfl) ?_
        refine mv rfl .no (.u rfl) ?_
        refine mv rfl .no (.u rfl) ?_
        refine mv rfl (.t rfl rfl) (.u rfl) ?_
        refine cp rfl (.t rfl rfl) (.u rfl) (.u rfl) rfl ?_
        refine pkA rfl .no (.u rfl) (.u rfl) ?_
        refine wo_b true (by rw [eR69]; rfl) ?_
        refine mv rfl .no (.u rfl) ?_
        refine lA rfl (.t rfl rfl) Fx.ag52 (.u rfl) (fun _ => RdN.own .here) (fun _ => (by first | exact (ba_len _ _).trans (ba_len _ _).symm | exact (wa_len _ _).trans (wa_len _ _).symm | exact ba_len _ _ | exact wa_len _ _ | rfl | (simp only [wa_len, ba_len, List.length_append, List.length_cons, List.length_nil]))) ?_
        refine lA rfl (.t rfl rfl) Fx.ag47 (.u rfl) (fun _ => RdN.own (.there .here)) (fun _ => (by first | exact (ba_len _ _).trans (ba_len _ _).symm | exact (wa_len _ _).trans (wa_len _ _).symm | exact ba_len _ _ | exact wa_len _ _ | rfl | (simp only [wa_len, ba_len, List.length_append, List.length_cons, List.length_nil]))) ?_
        refine mv rfl (.t rfl rfl) (.u rfl) ?_
        refine mv rfl (.t rfl rfl) (.u rfl) ?_
        refine kv rfl (.t rfl rfl) Fx.go29 (Eva.cons (.u rfl) Eva.nil) (fun _ => few16_ok ps hl _ hs hb) ?_
        refine kv rfl (.t rfl rfl) Fx.go31 (Eva.cons (.u rfl) (Eva.cons (.u rfl) (Eva.cons (.u rfl) (Eva.cons (.u rfl) Eva.nil)))) (fun _ => told16_ok _ _ pR69 _ _ root h hl (fewL ps) n _ hP69 hF (by rw [← List.length_map (f := (·.2)), eP69, eR69]; simp; omega)) ?_
        refine pkA rfl .no (.u rfl) (.u rfl) ?_
        refine wo_b true (by rw [eP69, eR69]; exact told_cut g1) ?_
        refine mv rfl .no (.u rfl) ?_
        refine fz rfl (.t rfl rfl) Fx.fo52_2 (.u rfl) ?_
        refine ld rfl (.t rfl rfl) Fx.ag3 (.u rfl) (fun _ => Rd.own .here (by first | exact wap_f rfl | rfl)) ?_
        refine mv rfl (.t rfl rfl) (.u rfl) ?_
        refine cp rfl (.t rfl rfl) (.u rfl) (.u rfl) rfl ?_
        refine pkA rfl .no (.u rfl) (.u rfl) ?_
        refine wo_b true (by rw [eR69]; simp) ?_
        refine mv rfl .no (.u rfl) ?_
        refine fz rfl (.t rfl rfl) Fx.fo52_3 (.u rfl) ?_
        refine ld rfl (.t rfl rfl) Fx.ag4 (.u rfl) (fun _ => Rd.own .here (by first | exact wap_f rfl | rfl)) ?_
        refine mv rfl (.t rfl rfl) (.u rfl) ?_
        refine mv rfl (.t rfl rfl) (.u rfl) ?_
        refine cp rfl (.t rfl rfl) (.u rfl) (.u rfl) rfl ?_
        refine eb rfl (.t rfl rfl) Fx.bt4 (.u rfl) (.u rfl) ?_
        refine pkA rfl .no (.u rfl) (.u rfl) ?_
        refine wo_b true (by rw [eR69]; simp) ?_
        refine asg rfl .no (.u rfl) ?_
        refine .nil ?_
        refine .code ?_
        refine .ret ?_
        refine We.fin0 Tryd.results12 (.tmp rfl .nil) ?_
        exact ⟨rfl, rfl⟩

theorem laid1_ok (root : Nat → Y) (h : Hd) (p : List Y) (hp : Sh) (b T : Nat) (G : PM) (hs : SlR G 1 encY hp p) (hK : RdNP G 1 0 (wa 64 kW)) (hb : p.length ≤ 20000) :
    Ct Tryd.prog 28 ([.agg (ba 32 root ++ [V h.kind, V h.level, uv .u64 h.gen, uv .u64 h.epoch, uv .u64 h.num]).toArray, .slice (some ⟨b, 0, none⟩) 1 1] : List Value).toArray G [.blk b (cl [hp.val p.length] T)]
      (fun _ μ' u => ∃ ν, μ' = .blk b (cl [hp.val p.length] T) :: ν ∧ ∃ v B ve es, B = logL root h [p] ∧ es = endsL root h [p] 1 ∧ ν = [rB v 5 B, rS 1 encN ve 3 es] ∧ u = .tuple #[v, ve, .bool true]) :=
  Ct.lendK (fun hle => laid16_ok root h [(hp, p)] ⟨some ⟨b, 0, none⟩, 1⟩ _ (SlP.one hle hs) (hK.mono hle) (by simp) (fun q hq => by rw [List.mem_singleton.1 hq]; exact hb))
theorem WalTurned_ok (root : Nat → Y) (h : Hd) (p : List Y) (hp : Sh) (l0 l1 : BitVec 16) (G : PM) (hs : SlR G 1 encY hp p) (hK : RdNP G 1 0 (wa 64 kW)) : Ct Tryd.prog 13 ([.agg (ba 32 root ++ [V h.kind, V h.level, uv .u64 h.gen, uv .u64 h.epoch, uv .u64 h.num]).toArray, hp.val p.length, .agg ([uv .u16 l0, uv .u16 l1] : List Value).toArray] : List Value).toArray G [] (fun _ μ' u => μ' = [] ∧ u = .bool true) := by
  refine Ct.of Tryd.func13 rfl Tryd.ntmps13 rfl fun w0 hs0 => ?_
  refine .seq ?_
  refine Wk.rg [0, 1, 2] rfl rfl ?_
  refine bx rfl (.u rfl) rfl ?_; intro b3
  refine bx rfl (.u rfl) rfl ?_; intro b5
  refine asg rfl .no (.u rfl) ?_
  refine .nil ?_
  refine .code ?_
  refine .seq ?_
  refine Wk.rg [0, 1] rfl rfl ?_
  refine kv rfl .no FxWalH.go22 Eva.nil (fun _ => shown16_ok _ hK) ?_
  refine asg rfl .no (.u rfl) ?_
  refine .nil ?_
  refine .code ?_
  refine .seq ?_
  refine .seq ?_
  refine Wk.rg [0, 1, 2, 3, 4, 5, 6, 7, 8, 9, 10, 11, 12, 13, 14] rfl rfl ?_
  refine mv rfl .no (.u rfl) ?_
  refine ln rfl .no Fx.sn27 (.u rfl) ?_
  refine cp rfl .no (.u rfl) (.u rfl) rfl ?_
  refine mv rfl .no (.u rfl) ?_
  refine fz rfl (.f rfl rfl) FxWalG.fo47_1 (.u rfl) ?_
  refine lA rfl (.f rfl rfl) Fx.ag45 (.s rfl) (fun _ => RdN.part (n := 5) (cs' := [V h.kind, V h.level, uv .u64 h.gen, uv .u64 h.epoch, uv .u64 h.num]) (.there .here) (of_r rfl)) (fun _ => rfl) ?_
  refine kv rfl (.f rfl rfl) Fx.go30 (Eva.cons (.s rfl) Eva.nil) (fun hc => nRight_ok h _) ?_
  refine nt rfl (.f rfl rfl) (.s rfl) ?_
  refine pkO rfl .no (.u rfl) (.s rfl) ?_
  refine mv rfl .no (.u rfl) ?_
  refine iA rfl (.f rfl rfl) Fx.ar40 (.u rfl) (.u rfl) (fun hc => by decide) (fun hc => by decide) ?_
  refine ld rfl (.f rfl rfl) Fx.ag39 (.s rfl) (fun hc => Rd.own .here (rfl)) ?_
  refine cu (k := .u16) rfl (.f rfl rfl) rfl Fx.cv39_5 (.s rfl) ?_
  refine cp rfl (.f rfl rfl) (.s rfl) (.u rfl) rfl ?_
  refine pkO rfl .no (.u rfl) (.s rfl) ?_
  refine .nil ?_
  refine .code ?_
  refine .cond rfl (fun c1 => ?_) (fun c1 => ?_)
  · have c1k := c1
    try simp only [decide_eq_true_eq, decide_eq_false_iff_not, Int.not_lt, Int.not_le, gt_iff_lt, ge_iff_le, Bool.or_eq_true, Bool.and_eq_true, Bool.or_eq_false_iff, Bool.and_eq_false_iff, Bool.not_eq_true', Bool.not_eq_false', Int.toNat_natCast, bne_iff_ne, beq_iff_eq, bne_eq_false_iff_eq, beq_eq_false_iff_ne, ne_eq] at c1
    refine .seq ?_
    refine Wk.rg [0, 1] rfl rfl ?_
    refine mv rfl .no (.u rfl) ?_
    refine asg rfl .no (.u rfl) ?_
    refine .nil ?_
    refine .code ?_
    refine .ret ?_
    refine We.fin0 Tryd.results13 (.tmp rfl .nil) ?_
    exact ⟨rfl, rfl⟩
  · have c1k := c1
    try simp only [decide_eq_true_eq, decide_eq_false_iff_not, Int.not_lt, Int.not_le, gt_iff_lt, ge_iff_le, Bool.or_eq_true, Bool.and_eq_true, Bool.or_eq_false_iff, Bool.and_eq_false_iff, Bool.not_eq_true', Bool.not_eq_false', Int.toNat_natCast, bne_iff_ne, beq_iff_eq, bne_eq_false_iff_eq, beq_eq_false_iff_ne, ne_eq] at c1
    refine .skip ?_
    refine .code ?_
    refine .seq ?_
    refine Wk.rg [0, 1, 2, 3, 4, 5, 6, 7, 8, 9, 10] rfl rfl ?_
    refine lA rfl .no Fx.ag47 (.u rfl) (fun _ => RdN.own (.there .here)) (fun _ => (by first | exact (ba_len _ _).trans (ba_len _ _).symm | exact (wa_len _ _).trans (wa_len _ _).symm | exact ba_len _ _ | exact wa_len _ _ | rfl | (simp only [wa_len, ba_len, List.length_append, List.length_cons, List.length_nil]))) ?_
    refine mv rfl .no (.u rfl) ?_
    refine Go.Tan.b1 rfl Fx.se50 Fx.zv27 (.u rfl) rfl rfl (by decide) ?_; intro b35
    refine ka rfl (.inr rfl) Fx.go28 (Eva.cons (.u rfl) (Eva.cons (.u rfl) Eva.nil)) (mtk1 .here) (laid1_ok root h p hp _ _ _ hs hK (by omega)) ?_
    rintro _ G36 μ36 hG36 ⟨_, rfl, v36, B, ve36, es, eB, eE, rfl, rfl⟩
    have hs := hs.mono hG36
    have hK := hK.mono hG36
    refine mv rfl .no (.u rfl) ?_
    refine ex rfl .no (.u rfl) rfl ?_
    refine ex rfl .no (.u rfl) rfl ?_
    refine ex rfl .no (.u rfl) rfl ?_
    refine asg rfl .no (.u rfl) ?_
    refine asg rfl .no (.u rfl) ?_
    refine asg rfl .no (.u rfl) ?_
    refine .nil ?_
    have lB := log_last (root := root) (h := h) (rs := [p]) (N := 0) rfl
    rw [end_zero, ← eB] at lB
    have lB2 := log_le (root := root) (h := h) (ps := [(hp, p)]) (fun q hq => by rw [List.mem_singleton.1 hq]; show p.length ≤ 20000; omega) (by simp)
    rw [show [(hp, p)].map (·.2) = [p] from rfl, ← eB] at lB2
    refine .code ?_
    refine .seq ?_
    refine .seq ?_
    refine Wk.rg [0, 1, 2, 3, 4, 5, 6] rfl rfl ?_
    refine mv rfl .no (.u rfl) ?_
    refine nt rfl .no (.u rfl) ?_
    refine mv rfl .no (.u rfl) ?_
    refine mv rfl (.f rfl rfl) (.u rfl) ?_
    refine lr rfl (.f rfl rfl) Fx.sn27 (.s rfl) (.there .here) ?_
    refine cp rfl (.f rfl rfl) (.s rfl) (.u rfl) rfl ?_
    refine pkO rfl .no (.u rfl) (.s rfl) ?_
    refine .nil ?_
    refine .code ?_
    refine .cond rfl (fun c2 => ?_) (fun c2 => ?_)
    · have c2k := c2
      have q2 : (B.length : Int) = 30 := by simpa using c2k
      exfalso; omega
    · have c2k := c2
      try simp only [decide_eq_true_eq, decide_eq_false_iff_not, Int.not_lt, Int.not_le, gt_iff_lt, ge_iff_le, Bool.or_eq_true, Bool.and_eq_true, Bool.or_eq_false_iff, Bool.and_eq_false_iff, Bool.not_eq_true', Bool.not_eq_false', Int.toNat_natCast, bne_iff_ne, beq_iff_eq, bne_eq_false_iff_eq, beq_eq_false_iff_ne, ne_eq] at c2
      refine .skip ?_
      refine .code ?_
      refine .seq ?_
      refine Wk.rg [0, 1, 2, 3, 4, 5, 6, 7, 8] rfl rfl ?_
      refine iA rfl .no Fx.ar40 (.u rfl) (.u rfl) (fun _ => by decide) (fun _ => by decide) ?_
      refine ld rfl .no Fx.ag39 (.u rfl) (fun _ => Rd.own (.there (.there (.there .here))) (rfl)) ?_
      refine cn (k := .u16) rfl .no Fx.cv39_3 (by decide) (.u rfl) ?_; intro m49 em49 lm49
      refine mv rfl .no (.u rfl) ?_
      refine lr rfl .no Fx.sn27 (.u rfl) (.there .here) ?_
      refine arn (((B.length - 30) : Nat) : Int) rfl .no (.u rfl) (.u rfl) rfl (fun _ => by omega) (fun _ => wrap_i64 (by omega) (by omega)) ?_
      refine rmn (m49) ((B.length - 30)) rfl .no (.u rfl) (.u rfl) (fun _ => by omega) (fun _ => by omega) (fun _ => by first | decide | omega) ?_
      have hmod : m49 % (B.length - 30) < B.length - 30 := Nat.mod_lt _ (by omega)
      refine arn (((30 + (m49 % (B.length - 30))) : Nat) : Int) rfl .no (.u rfl) (.u rfl) rfl (fun _ => by omega) (fun _ => wrap_i64 (by omega) (by omega)) ?_
      refine asg rfl .no (.u rfl) ?_
      refine .nil ?_
      refine .code ?_
      refine .seq ?_
      refine Wk.rg [0, 1, 2, 3] rfl rfl ?_
      refine mv rfl .no (.u rfl) ?_
      refine arn (((m49 % (B.length - 30)) : Nat) : Int) rfl .no (.u rfl) (.u rfl) rfl (fun _ => by omega) (fun _ => wrap_i64 (by omega) (by omega)) ?_
      refine rmn ((m49 % (B.length - 30))) (135) rfl .no (.u rfl) (.u rfl) (fun _ => by omega) (fun _ => by omega) (fun _ => by first | decide | omega) ?_
      refine asg rfl .no (.u rfl) ?_
      refine .nil ?_
      refine .code ?_
      refine .seq ?_
      refine .seq ?_
      refine Wk.rg [0, 1, 2, 3, 4, 5] rfl rfl ?_
      refine mv rfl .no (.u rfl) ?_
      refine cp rfl .no (.u rfl) (.u rfl) rfl ?_
      refine mv rfl .no (.u rfl) ?_
      refine mv rfl (.f rfl rfl) (.u rfl) ?_
      refine cp rfl (.f rfl rfl) (.s rfl) (.u rfl) rfl ?_
      refine pkO rfl .no (.u rfl) (.s rfl) ?_
      refine .nil ?_
      refine .code ?_
      refine .cond rfl (fun c3 => ?_) (fun c3 => ?_)
      · have c3k := c3
        try simp only [decide_eq_true_eq, decide_eq_false_iff_not, Int.not_lt, Int.not_le, gt_iff_lt, ge_iff_le, Bool.or_eq_true, Bool.and_eq_true, Bool.or_eq_false_iff, Bool.and_eq_false_iff, Bool.not_eq_true', Bool.not_eq_false', Int.toNat_natCast, bne_iff_ne, beq_iff_eq, bne_eq_false_iff_eq, beq_eq_false_iff_ne, ne_eq] at c3
        refine .seq ?_
        refine Wk.rg [0, 1] rfl rfl ?_
        refine mv rfl .no (.u rfl) ?_
        refine asg rfl .no (.u rfl) ?_
        refine .nil ?_
        refine .code ?_
        refine .ret ?_
        refine We.fin0 Tryd.results13 (.tmp rfl .nil) ?_
        exact ⟨rfl, rfl⟩
      · have c3k := c3
        try simp only [decide_eq_true_eq, decide_eq_false_iff_not, Int.not_lt, Int.not_le, gt_iff_lt, ge_iff_le, Bool.or_eq_true, Bool.and_eq_true, Bool.or_eq_false_iff, Bool.and_eq_false_iff, Bool.not_eq_true', Bool.not_eq_false', Int.toNat_natCast, bne_iff_ne, beq_iff_eq, bne_eq_false_iff_eq, beq_eq_false_iff_ne, ne_eq] at c3
        refine .skip ?_
        refine .code ?_
        refine .seq ?_
        refine wk_rv (.there .here) (by omega) ?_; intro bq cq evRB lcRB; subst evRB
        refine Wk.draw (mc := ⟨false, false⟩) [0, 1, 2, 3, 4, 5, 6, 7, 8, 9] Fx.mix (by kernel_rfl) ?_
        refine mv rfl .no (.u rfl) ?_
        refine mv rfl .no (.u rfl) ?_
        refine ia rfl .no Fx.se27 (.u rfl) (.u rfl) (fun _ => by omega) (fun _ => by omega) ?_
        refine ld rfl .no Fx.ag5 (.u rfl) (fun _ => Rd.row (.there .here) (by first | exact map_at1 ((30 + (m49 % (B.length - 30)))) (by omega) (by omega) | exact wa_at1 ((30 + (m49 % (B.length - 30)))) (by omega) (by omega))) ?_
        refine iA rfl .no Fx.ar40 (.u rfl) (.u rfl) (fun _ => by decide) (fun _ => by decide) ?_
        refine ld rfl .no Fx.ag39 (.u rfl) (fun _ => Rd.own (.there (.there (.there .here))) (rfl)) ?_
        refine cu (k := .u16) rfl .no rfl Fx.cv39_5 (.u rfl) ?_
        refine bw (k := .u8) rfl .no rfl (.u rfl) (.u rfl) rfl ?_
        refine ia rfl .no Fx.se27 (.u rfl) (.u rfl) (fun _ => by omega) (fun _ => by omega) ?_
        refine s1r rfl (.u rfl) (.u rfl) Fx.sz5 (.there .here) (by omega) ?_; intro Ls11_9 eLs11_9 lLs11_9
        refine .nil ?_
        refine .code ?_
        refine .seq ?_
        refine wk_fb .here (by first | (intro b hb; cases hb; done) | simp [keys, Res.keys]) ?_; intro GfRB hRB hleRB evRB hsRB; try rw [ evRB]
        have hs := hs.mono hleRB
        have hK := hK.mono hleRB
        refine Wk.rg [0, 1, 2, 3, 4, 5, 6, 7, 8, 9] rfl rfl ?_
        refine fz rfl .no FxWalG.fo47_0 (.u rfl) ?_
        refine lA rfl .no Fx.ag42 (.u rfl) (fun _ => RdN.part (n := 32) (cs' := ba 32 root) (.there (.there (.there .here))) (app_l)) (fun _ => (by first | exact (ba_len _ _).trans (ba_len _ _).symm | exact (wa_len _ _).trans (wa_len _ _).symm | exact ba_len _ _ | exact wa_len _ _ | rfl | (simp only [wa_len, ba_len, List.length_append, List.length_cons, List.length_nil]))) ?_
        refine mv rfl .no (.u rfl) ?_
        refine kc rfl Fx.go25 (Eva.cons (.u rfl) (Eva.cons (.u rfl) Eva.nil)) (wRead_o root Ls11_9 hRB _ hsRB hK (by omega)) ?_
        rintro _ G78 μ78 hG78 ⟨RP78, sR78, pR78, eR78, hP78, eP78, rfl, rfl⟩
        have hs := hs.mono hG78
        have hK := hK.mono hG78
        have hsRB := hsRB.mono hG78
        refine mv rfl .no (.u rfl) ?_
        refine ex rfl .no (.u rfl) rfl ?_
        refine ex rfl .no (.u rfl) rfl ?_
        refine al rfl Fx.zr52 ?_; intro b13
        refine sw rfl (.u rfl) (.u rfl) rfl Fx.sz52 .here (by first | exact (ba_len _ _).trans (ba_len _ _).symm | exact (wa_len _ _).trans (wa_len _ _).symm | exact ba_len _ _ | exact wa_len _ _ | rfl | (simp only [wa_len, ba_len, List.length_append, List.length_cons, List.length_nil])) (one8 rfl rfl rfl rfl rfl rfl rfl rfl) ?_
        refine asg rfl .no (.u rfl) ?_
        refine .nil ?_
        refine .code ?_
        refine .seq ?_
        refine Wk.rg [0, 1, 2, 3, 4, 5, 6, 7, 8, 9, 10, 11, 12, 13, 14, 15, 16, 17, 18, 19, 20, 21, 22] rfl rfl ?_
        refine mv rfl .no (.u rfl) ?_
        refine mv rfl .no (.u rfl) ?_
        refine mv rfl (.t rfl rfl) (.u rfl) ?_
        refine cp rfl (.t rfl rfl) (.s rfl) (.u rfl) rfl ?_
        refine pkA rfl .no (.u rfl) (.s rfl) ?_
        refine mv rfl .no (.u rfl) ?_
        refine fz rfl (.t rfl rfl) Fx.fo52_1 (.u rfl) ?_
        refine ld rfl (.t rfl rfl) Fx.ag50 (.s rfl) (fun hc => Rd.own .here (by first | exact wap_f rfl | rfl)) ?_
        refine ln rfl (.t rfl rfl) Fx.sn50 (.s rfl) ?_
        refine cp rfl (.t rfl rfl) (.s rfl) (.u rfl) rfl ?_
        refine pkA rfl .no (.u rfl) (.s rfl) ?_
        refine mv rfl .no (.u rfl) ?_
        refine fz rfl (.t rfl rfl) Fx.fo52_3 (.u rfl) ?_
        refine ld rfl (.t rfl rfl) Fx.ag4 (.s rfl) (fun hc => Rd.own .here (by first | exact wap_f rfl | rfl)) ?_
        refine nt rfl (.t rfl rfl) (.s rfl) ?_
        refine pkA rfl .no (.u rfl) (.s rfl) ?_
        refine mv rfl .no (.u rfl) ?_
        refine fz rfl (.t rfl rfl) Fx.fo52_0 (.u rfl) ?_
        refine lA rfl (.t rfl rfl) Fx.ag45 (.s rfl) (fun _ => RdN.part (n := 5) (cs' := [V RP78.1.hd.kind, V RP78.1.hd.level, uv .u64 RP78.1.hd.gen, uv .u64 RP78.1.hd.epoch, uv .u64 RP78.1.hd.num]) .here (rfl)) (fun _ => rfl) ?_
        refine bC rfl (.t rfl rfl) Fx.bp45_ .nil rfl ?_
        refine eqC (decide (RP78.1.hd = Hd.zero)) rfl (.t rfl rfl) Fx.eqt45 (.s rfl) (.s rfl) (fun hc => hd_conf _) (fun hc => hd_conf Hd.zero) (fun hc => hd_iff) ?_
        refine pkA rfl .no (.u rfl) (.s rfl) ?_
        refine asg rfl .no (.u rfl) ?_
        refine .nil ?_
        refine .code ?_
        refine .ret ?_
        refine We.fin0 Tryd.results13 (.tmp rfl .nil) ?_
        have e9 : Ls11_9 = B.set (30 + m49 % (B.length - 30)) (B.getD (30 + m49 % (B.length - 30)) 0 ^^^ l1.setWidth 8) := by rw [eLs11_9, show 0 + (((30 + m49 % (B.length - 30)) : Nat) : Int).toNat * 1 = (30 + m49 % (B.length - 30)) by omega]; rfl
        have eT := log_turned (root := root) (h := h) (p := p) (k := (30 + m49 % (B.length - 30))) (y := B.getD (30 + m49 % (B.length - 30)) 0 ^^^ l1.setWidth 8) c1.1.2 (by omega) (by rw [← eB]; exact getD_at (by omega)) (xor_ne (fun e => c1.2 (congrArg (fun z : Y => (z.toNat : Int)) e))) (by omega) (by omega)
        rw [← eB, ← e9] at eT
        rw [eT] at eR78
        obtain rfl : pR78 = [] := by have h9 := eP78; rw [eR78] at h9; exact List.map_eq_nil_iff.1 h9
        refine ⟨rfl, congrArg Value.bool ?_⟩
        rw [eR78]; simp

theorem WalMore_ok (root : Nat → Y) (h : Hd) (ps : List (Sh × List Y)) (hl : Sh) (p : List Y) (hp : Sh) (G : PM) (hs : SlP G hl ps) (hsp : SlR G 1 encY hp p) (hK : RdNP G 1 0 (wa 64 kW)) (hb : ps.length ≤ 1000000000000000) : Ct Tryd.prog 14 ([.agg (ba 32 root ++ [V h.kind, V h.level, uv .u64 h.gen, uv .u64 h.epoch, uv .u64 h.num]).toArray, hl.val ps.length, hp.val p.length] : List Value).toArray G [] (fun _ μ' u => μ' = [] ∧ u = .bool true) := by
  refine Ct.of Tryd.func14 rfl Tryd.ntmps14 rfl fun w0 hs0 => ?_
  have hF : SlP G hl (fewL ps) := hs.tk _
  have hFb := few_short ps
  have hFn := few_count ps
  
  refine .seq ?_
  refine Wk.rg [0, 1] rfl rfl ?_
  refine bx rfl (.u rfl) rfl ?_; intro b3
  refine asg rfl .no (.u rfl) ?_
  refine .nil ?_
  refine .code ?_
  refine .seq ?_
  refine Wk.rg [0, 1] rfl rfl ?_
  refine kv rfl .no FxWalH.go22 Eva.nil (fun _ => shown16_ok _ hK) ?_
  refine asg rfl .no (.u rfl) ?_
  refine .nil ?_
  refine .code ?_
  refine .seq ?_
  refine .seq ?_
  refine Wk.rg [0, 1, 2, 3, 4, 5, 6, 7, 8] rfl rfl ?_
  refine mv rfl .no (.u rfl) ?_
  refine ln rfl .no Fx.sn27 (.u rfl) ?_
  refine cp rfl .no (.u rfl) (.u rfl) rfl ?_
  refine mv rfl .no (.u rfl) ?_
  refine fz rfl (.f rfl rfl) FxWalG.fo47_1 (.u rfl) ?_
  refine lA rfl (.f rfl rfl) Fx.ag45 (.s rfl) (fun _ => RdN.part (n := 5) (cs' := [V h.kind, V h.level, uv .u64 h.gen, uv .u64 h.epoch, uv .u64 h.num]) .here (of_r rfl)) (fun _ => rfl) ?_
  refine kv rfl (.f rfl rfl) Fx.go30 (Eva.cons (.s rfl) Eva.nil) (fun hc => nRight_ok h _) ?_
  refine nt rfl (.f rfl rfl) (.s rfl) ?_
  refine pkO rfl .no (.u rfl) (.s rfl) ?_
  refine .nil ?_
  refine .code ?_
  refine .cond rfl (fun c1 => ?_) (fun c1 => ?_)
  · have c1k := c1
    try simp only [decide_eq_true_eq, decide_eq_false_iff_not, Int.not_lt, Int.not_le, gt_iff_lt, ge_iff_le, Bool.or_eq_true, Bool.and_eq_true, Bool.or_eq_false_iff, Bool.and_eq_false_iff, Bool.not_eq_true', Bool.not_eq_false', Int.toNat_natCast, bne_iff_ne, beq_iff_eq, bne_eq_false_iff_eq, beq_eq_false_iff_ne, ne_eq] at c1
    refine .seq ?_
    refine Wk.rg [0, 1] rfl rfl ?_
    refine mv rfl .no (.u rfl) ?_
    refine asg rfl .no (.u rfl) ?_
    refine .nil ?_
    refine .code ?_
    refine .ret ?_
    refine We.fin0 Tryd.results14 (.tmp rfl .nil) ?_
    exact ⟨rfl, rfl⟩
  · have c1k := c1
    try simp only [decide_eq_true_eq, decide_eq_false_iff_not, Int.not_lt, Int.not_le, gt_iff_lt, ge_iff_le, Bool.or_eq_true, Bool.and_eq_true, Bool.or_eq_false_iff, Bool.and_eq_false_iff, Bool.not_eq_true', Bool.not_eq_false', Int.toNat_natCast, bne_iff_ne, beq_iff_eq, bne_eq_false_iff_eq, beq_eq_false_iff_ne, ne_eq] at c1
    have hr : h.right = true := c1.2
    refine .skip ?_
    refine .code ?_
    refine .seq ?_
    refine Wk.rg [0, 1, 2, 3, 4, 5, 6, 7] rfl rfl ?_
    refine b0 rfl rfl Fx.se50 ?_; intro v30; show Wo _ _ _ _ _ _ _ _ _ (rS 1 encP v30 27 ([] : List (Sh × List Y)) :: _)
    refine mv rfl .no (.u rfl) ?_
    refine kv rfl .no Fx.go29 (Eva.cons (.u rfl) Eva.nil) (fun _ => few16_ok ps hl _ hs hb) ?_
    refine apL rfl Fx.se50 Fx.zv27 rfl (.u rfl) (.u rfl) .here hF.sl (fun _ _ => rfl) (encP_one _) (by simp; omega) (by unfold maxLen; simp; omega) ?_; intro v33 ov33
    refine mv rfl .no (.u rfl) ?_
    refine Go.Tan.b1 rfl Fx.se50 Fx.zv27 (.u rfl) rfl rfl (by decide) ?_; intro b35
    refine apS ((hp, p)) rfl Fx.se50 Fx.zv27 rfl (.u rfl) (.u rfl) (.there .here) .here (rfl) (one1 rfl) (by simp; omega) (by unfold maxLen; simp; omega) ?_; intro v36 ov36
    refine asg rfl .no (.u rfl) ?_
    refine .nil ?_
    refine .code ?_
    refine .seq ?_
    have hAM : AllS _ (([] ++ fewL ps) ++ [(hp, p)]) := AllS.snoc ⟨fun q hq => hF.all q (by simpa using hq)⟩ hsp
    refine wk_fs .here (fun _ _ => rfl) (by intro b hb; cases hb) ?_; intro GfRM hRM hleRM evRM hsRM; subst evRM
    have hs := hs.mono hleRM
    have hsp := hsp.mono hleRM
    have hK := hK.mono hleRM
    have hF := hF.mono hleRM
    have hAM := hAM.mono hleRM
    have hsRM := SlP.of hsRM hAM
    obtain ⟨M, eM⟩ : ∃ M, M = ([] ++ fewL ps) ++ [(hp, p)] := ⟨_, rfl⟩
    rw [← eM] at hsRM ⊢
    have lM : M.length = (fewL ps).length + 1 := by rw [eM]; simp
    have hMb : ∀ q ∈ M, q.2.length ≤ 20000 := fun q hq => by
      rw [eM] at hq
      rcases List.mem_append.1 hq with hq | hq
      · exact hFb q (by simpa using hq)
      · rw [List.mem_singleton.1 hq]; show p.length ≤ 20000; omega
    have hLl := log_le (root := root) (h := h) hMb (by omega)
    have lR : (M.map (·.2)).length = (fewL ps).length + 1 := by rw [List.length_map, lM]
    refine Wk.rg [0, 1, 2, 3, 4, 5, 6, 7, 8, 9] rfl rfl ?_
    refine lA rfl .no Fx.ag47 (.u rfl) (fun _ => RdN.own (.there .here)) (fun _ => (by first | exact (ba_len _ _).trans (ba_len _ _).symm | exact (wa_len _ _).trans (wa_len _ _).symm | exact ba_len _ _ | exact wa_len _ _ | rfl | (simp only [wa_len, ba_len, List.length_append, List.length_cons, List.length_nil]))) ?_
    refine mv rfl .no (.u rfl) ?_
    refine kc rfl Fx.go28 (Eva.cons (.u rfl) (Eva.cons (.u rfl) Eva.nil)) (laid16_ok root h M hRM _ hsRM hK (by omega) hMb) ?_
    rintro _ G40 μ40 hG40 ⟨v40, B, ve40, es, eB, eE, rfl, rfl⟩
    have hs := hs.mono hG40
    have hsp := hsp.mono hG40
    have hK := hK.mono hG40
    have hF := hF.mono hG40
    have hAM := hAM.mono hG40
    have hsRM := hsRM.mono hG40
    refine mv rfl .no (.u rfl) ?_
    refine ex rfl .no (.u rfl) rfl ?_
    refine ex rfl .no (.u rfl) rfl ?_
    refine ex rfl .no (.u rfl) rfl ?_
    refine asg rfl .no (.u rfl) ?_
    refine asg rfl .no (.u rfl) ?_
    refine asg rfl .no (.u rfl) ?_
    refine .nil ?_
    rw [← eB] at hLl
    have lE : es.length = M.length := by rw [eE, ends_len]
    have lB := log_last (root := root) (h := h) (rs := M.map (·.2)) (N := (fewL ps).length) lR
    rw [← eB] at lB
    refine .code ?_
    refine .seq ?_
    refine .seq ?_
    refine Wk.rg [0, 1] rfl rfl ?_
    refine mv rfl .no (.u rfl) ?_
    refine nt rfl .no (.u rfl) ?_
    refine .nil ?_
    refine .code ?_
    refine Wk.condF rfl rfl ?_
    refine .skip ?_
    refine .code ?_
    refine .seq ?_
    refine Wk.rg [0] rfl rfl ?_
    refine asg rfl .no (.u rfl) ?_
    refine .nil ?_
    refine .code ?_
    refine .seq ?_
    refine .seq ?_
    refine wk_fs (.there .here) (fun _ _ => rfl) (by intro b hb; cases hb) ?_; intro GfRE hRE hleRE evRE hsRE; subst evRE
    have hs := hs.mono hleRE
    have hsp := hsp.mono hleRE
    have hK := hK.mono hleRE
    have hF := hF.mono hleRE
    have hAM := hAM.mono hleRE
    have hsRM := hsRM.mono hleRE
    refine Wk.rg [0, 1, 2] rfl rfl ?_
    refine mv rfl .no (.u rfl) ?_
    refine ln rfl .no Fx.sn57 (.u rfl) ?_
    refine cp rfl .no (.u rfl) (.u rfl) rfl ?_
    refine .nil ?_
    refine .code ?_
    refine .cond rfl (fun c2 => ?_) (fun c2 => ?_)
    · have c2k := c2
      try simp only [decide_eq_true_eq, decide_eq_false_iff_not, Int.not_lt, Int.not_le, gt_iff_lt, ge_iff_le, Bool.or_eq_true, Bool.and_eq_true, Bool.or_eq_false_iff, Bool.and_eq_false_iff, Bool.not_eq_true', Bool.not_eq_false', Int.toNat_natCast, bne_iff_ne, beq_iff_eq, bne_eq_false_iff_eq, beq_eq_false_iff_ne, ne_eq] at c2
      refine Wk.rg [0, 1, 2, 3, 4, 5, 6] rfl rfl ?_
      refine mv rfl .no (.u rfl) ?_
      refine mv rfl .no (.u rfl) ?_
      refine ln rfl .no Fx.sn57 (.u rfl) ?_
      refine arn (((es.length - 2) : Nat) : Int) rfl .no (.u rfl) (.u rfl) rfl (fun _ => by omega) (fun _ => wrap_i64 (by omega) (by omega)) ?_
      refine ih rfl .no Fx.se57 (.u rfl) (.u rfl) (fun _ => by omega) (fun _ => by omega) (fun _ => hsRE.nn (k := (es.length - 2)) (by omega)) ?_
      obtain ⟨x54, ex54⟩ := getx (k := (es.length - 2)) (xs := es) (by omega)
      refine ld rfl .no Fx.ag3 (.u rfl) (fun _ => (hsRE.n1 ((es.length - 2)) (by omega) ex54).rd) ?_
      refine asg rfl .no (.u rfl) ?_
      refine .nil ?_
      have hw : x54 = 30 + endL (sealAt root h) 0 (M.map (·.2)) (fewL ps).length := by
        have h9 : x54 = 30 + endL (sealAt root h) 0 (M.map (·.2)) (es.length - 2 + 1) := ends_at (k := M.length) (by rw [← eE]; exact ex54)
        rw [h9]; congr 2; omega
      refine .code ?_
      refine .seq ?_
      refine wk_fb .here (by first | (intro b hb; cases hb; done) | simp [keys, Res.keys]) ?_; intro GfRB hRB hleRB evRB hsRB; subst evRB
      have hs := hs.mono hleRB
      have hsp := hsp.mono hleRB
      have hK := hK.mono hleRB
      have hF := hF.mono hleRB
      have hAM := hAM.mono hleRB
      have hsRM := hsRM.mono hleRB
      have hsRE := hsRE.mono hleRB
      refine Wk.rg [0, 1, 2, 3, 4, 5, 6, 7, 8, 9] rfl rfl ?_
      refine fz rfl .no FxWalG.fo47_0 (.u rfl) ?_
      refine lA rfl .no Fx.ag42 (.u rfl) (fun _ => RdN.part (n := 32) (cs' := ba 32 root) (.there .here) (app_l)) (fun _ => (by first | exact (ba_len _ _).trans (ba_len _ _).symm | exact (wa_len _ _).trans (wa_len _ _).symm | exact ba_len _ _ | exact wa_len _ _ | rfl | (simp only [wa_len, ba_len, List.length_append, List.length_cons, List.length_nil]))) ?_
      refine mv rfl .no (.u rfl) ?_
      refine kc rfl Fx.go25 (Eva.cons (.u rfl) (Eva.cons (.u rfl) Eva.nil)) (wRead_o root B hRB _ hsRB hK (by omega)) ?_
      rintro _ G59 μ59 hG59 ⟨RP59, sR59, pR59, eR59, hP59, eP59, rfl, rfl⟩
      have hs := hs.mono hG59
      have hsp := hsp.mono hG59
      have hK := hK.mono hG59
      have hF := hF.mono hG59
      have hAM := hAM.mono hG59
      have hsRM := hsRM.mono hG59
      have hsRE := hsRE.mono hG59
      have hsRB := hsRB.mono hG59
      refine mv rfl .no (.u rfl) ?_
      refine ex rfl .no (.u rfl) rfl ?_
      refine ex rfl .no (.u rfl) rfl ?_
      refine al rfl Fx.zr52 ?_; intro b13
      refine sw rfl (.u rfl) (.u rfl) rfl Fx.sz52 .here (by first | exact (ba_len _ _).trans (ba_len _ _).symm | exact (wa_len _ _).trans (wa_len _ _).symm | exact ba_len _ _ | exact wa_len _ _ | rfl | (simp only [wa_len, ba_len, List.length_append, List.length_cons, List.length_nil])) (one8 rfl rfl rfl rfl rfl rfl rfl rfl) ?_
      refine asg rfl .no (.u rfl) ?_
      refine .nil ?_
      refine .code ?_
      refine .seq ?_
      refine Wk.draw (mc := ⟨false, false⟩) [0, 1, 2, 3, 4, 5, 6, 7, 8, 9, 10, 11, 12, 13] Fx.mix (by kernel_rfl) ?_
      refine fz rfl .no FxWalG.fo47_0 (.u rfl) ?_
      refine lA rfl .no Fx.ag42 (.u rfl) (fun _ => RdN.part (n := 32) (cs' := ba 32 root) (.there (.there .here)) (app_l)) (fun _ => (by first | exact (ba_len _ _).trans (ba_len _ _).symm | exact (wa_len _ _).trans (wa_len _ _).symm | exact ba_len _ _ | exact wa_len _ _ | rfl | (simp only [wa_len, ba_len, List.length_append, List.length_cons, List.length_nil]))) ?_
      refine mv rfl .no (.u rfl) ?_
      refine mv rfl .no (.u rfl) ?_
      refine ln rfl .no Fx.sn27 (.u rfl) ?_
      refine arn (((B.length - 1) : Nat) : Int) rfl .no (.u rfl) (.u rfl) rfl (fun _ => by omega) (fun _ => wrap_i64 (by omega) (by omega)) ?_
      refine kE ((B.length - 1)) rfl .no Fx.se27 hsRB (.u rfl) (.u rfl) (fun _ => by omega) (fun _ => by omega) ?_
      intro h69 L69 eL69 lL69 hs69
      have lL69 := lL69 rfl
      refine kc rfl Fx.go25 (Eva.cons (.u rfl) (Eva.cons (.u rfl) Eva.nil)) (wRead_o root L69 h69 _ hs69 hK (by omega)) ?_
      rintro _ G70 μ70 hG70 ⟨RP70, sR70, pR70, eR70, hP70, eP70, rfl, rfl⟩
      have hs := hs.mono hG70
      have hsp := hsp.mono hG70
      have hK := hK.mono hG70
      have hF := hF.mono hG70
      have hAM := hAM.mono hG70
      have hsRM := hsRM.mono hG70
      have hsRE := hsRE.mono hG70
      have hsRB := hsRB.mono hG70
      have hP59 := hP59.mono hG70
      have hs69 := hs69.mono hG70
      refine mv rfl .no (.u rfl) ?_
      refine ex rfl .no (.u rfl) rfl ?_
      refine ex rfl .no (.u rfl) rfl ?_
      refine al rfl Fx.zr52 ?_; intro b15
      refine sw rfl (.u rfl) (.u rfl) rfl Fx.sz52 .here (by first | exact (ba_len _ _).trans (ba_len _ _).symm | exact (wa_len _ _).trans (wa_len _ _).symm | exact ba_len _ _ | exact wa_len _ _ | rfl | (simp only [wa_len, ba_len, List.length_append, List.length_cons, List.length_nil])) (one8 rfl rfl rfl rfl rfl rfl rfl rfl) ?_
      refine asg rfl .no (.u rfl) ?_
      refine .nil ?_
      refine .code ?_
      refine .seq ?_
      refine Wk.draw (mc := ⟨false, false⟩) [0, 1, 2, 3, 4, 5, 6, 7, 8, 9, 10, 11] Fx.mix (by kernel_rfl) ?_
      refine fz rfl .no FxWalG.fo47_0 (.u rfl) ?_
      refine lA rfl .no Fx.ag42 (.u rfl) (fun _ => RdN.part (n := 32) (cs' := ba 32 root) (.there (.there (.there .here))) (app_l)) (fun _ => (by first | exact (ba_len _ _).trans (ba_len _ _).symm | exact (wa_len _ _).trans (wa_len _ _).symm | exact ba_len _ _ | exact wa_len _ _ | rfl | (simp only [wa_len, ba_len, List.length_append, List.length_cons, List.length_nil]))) ?_
      refine mv rfl .no (.u rfl) ?_
      refine mv rfl .no (.u rfl) ?_
      refine kE (x54) rfl .no Fx.se27 hsRB (.u rfl) (.u rfl) (fun _ => by omega) (fun _ => by omega) ?_
      intro h78 L78 eL78 lL78 hs78
      have lL78 := lL78 rfl
      refine kc rfl Fx.go25 (Eva.cons (.u rfl) (Eva.cons (.u rfl) Eva.nil)) (wRead_o root L78 h78 _ hs78 hK (by omega)) ?_
      rintro _ G79 μ79 hG79 ⟨RP79, sR79, pR79, eR79, hP79, eP79, rfl, rfl⟩
      have hs := hs.mono hG79
      have hsp := hsp.mono hG79
      have hK := hK.mono hG79
      have hF := hF.mono hG79
      have hAM := hAM.mono hG79
      have hsRM := hsRM.mono hG79
      have hsRE := hsRE.mono hG79
      have hsRB := hsRB.mono hG79
      have hP59 := hP59.mono hG79
      have hs69 := hs69.mono hG79
      have hP70 := hP70.mono hG79
      have hs78 := hs78.mono hG79
      refine mv rfl .no (.u rfl) ?_
      refine ex rfl .no (.u rfl) rfl ?_
      refine ex rfl .no (.u rfl) rfl ?_
      refine al rfl Fx.zr52 ?_; intro b17
      refine sw rfl (.u rfl) (.u rfl) rfl Fx.sz52 .here (by first | exact (ba_len _ _).trans (ba_len _ _).symm | exact (wa_len _ _).trans (wa_len _ _).symm | exact ba_len _ _ | exact wa_len _ _ | rfl | (simp only [wa_len, ba_len, List.length_append, List.length_cons, List.length_nil])) (one8 rfl rfl rfl rfl rfl rfl rfl rfl) ?_
      refine asg rfl .no (.u rfl) ?_
      refine .nil ?_
      rw [eB, log_back _ hr, ← eB] at eR59
      have e1 := log_more (root := root) (h := h) (rs := M.map (·.2)) (N := (fewL ps).length) hr lR (k := B.length - 1) (by omega) (by rw [← eB]; omega)
      have e2 := log_more (root := root) (h := h) (rs := M.map (·.2)) (N := (fewL ps).length) hr lR (k := x54) (by omega) (by rw [← eB]; omega)
      rw [← eB, ← eL69] at e1
      rw [← eB, ← eL78] at e2
      have eR70 := eR70.trans e1
      have eR79 := eR79.trans e2
      refine .code ?_
      refine .seq ?_
      refine Wk.rg [0, 1, 2, 3, 4, 5, 6, 7, 8, 9, 10, 11, 12, 13, 14, 15, 16, 17, 18, 19, 20, 21, 22, 23, 24, 25, 26, 27, 28, 29, 30, 31, 32, 33, 34, 35, 36, 37, 38, 39, 40, 41, 42, 43, 44, 45, 46, 47, 48, 49, 50, 51, 52, 53, 54] rfl rfl ?_
      refine mv rfl .no (.u rfl) ?_
      refine mv rfl .no (.u rfl) ?_
      refine mv rfl (.t rfl rfl) (.u rfl) ?_
      refine cp rfl (.t rfl rfl) (.u rfl) (.u rfl) rfl ?_
      refine pkA rfl .no (.u rfl) (.u rfl) ?_
      refine wo_b true (by rw [eR59]; rfl) ?_
      refine mv rfl .no (.u rfl) ?_
      refine mv rfl (.t rfl rfl) (.u rfl) ?_
      refine cp rfl (.t rfl rfl) (.u rfl) (.u rfl) rfl ?_
      refine pkA rfl .no (.u rfl) (.u rfl) ?_
      refine wo_b true (by rw [eR70]; rfl) ?_
      refine mv rfl .no (.u rfl) ?_
      refine mv rfl (.t rfl rfl) (.u rfl) ?_
      refine cp rfl (.t rfl rfl) (.u rfl) (.u rfl) rfl ?_
      refine pkA rfl .no (.u rfl) (.u rfl) ?_
      refine wo_b true (by rw [eR79]; rfl) ?_
      refine mv rfl .no (.u rfl) ?_
      refine lA rfl (.t rfl rfl) Fx.ag52 (.u rfl) (fun _ => RdN.own (.there (.there .here))) (fun _ => (by first | exact (ba_len _ _).trans (ba_len _ _).symm | exact (wa_len _ _).trans (wa_len _ _).symm | exact ba_len _ _ | exact wa_len _ _ | rfl | (simp only [wa_len, ba_len, List.length_append, List.length_cons, List.length_nil]))) ?_
      refine lA rfl (.t rfl rfl) Fx.ag47 (.u rfl) (fun _ => RdN.own (.there (.there (.there (.there .here))))) (fun _ => (by first | exact (ba_len _ _).trans (ba_len _ _).symm | exact (wa_len _ _).trans (wa_len _ _).symm | exact ba_len _ _ | exact wa_len _ _ | rfl | (simp only [wa_len, ba_len, List.length_append, List.length_cons, List.length_nil]))) ?_
      refine mv rfl (.t rfl rfl) (.u rfl) ?_
      refine mv rfl (.t rfl rfl) (.u rfl) ?_
      refine ln rfl (.t rfl rfl) Fx.sn50 (.u rfl) ?_
      refine kv rfl (.t rfl rfl) Fx.go31 (Eva.cons (.u rfl) (Eva.cons (.u rfl) (Eva.cons (.u rfl) (Eva.cons (.u rfl) Eva.nil)))) (fun _ => told16_ok _ _ pR59 _ _ root h hRM M M.length _ hP59 hsRM (by rw [← List.length_map (f := (·.2)), eP59, eR59]; simp; omega)) ?_
      refine pkA rfl .no (.u rfl) (.u rfl) ?_
      refine wo_b true (by rw [eP59, eR59]; exact told_back (by rw [List.length_map])) ?_
      refine mv rfl .no (.u rfl) ?_
      refine lA rfl (.t rfl rfl) Fx.ag52 (.u rfl) (fun _ => RdN.own (.there .here)) (fun _ => (by first | exact (ba_len _ _).trans (ba_len _ _).symm | exact (wa_len _ _).trans (wa_len _ _).symm | exact ba_len _ _ | exact wa_len _ _ | rfl | (simp only [wa_len, ba_len, List.length_append, List.length_cons, List.length_nil]))) ?_
      refine lA rfl (.t rfl rfl) Fx.ag47 (.u rfl) (fun _ => RdN.own (.there (.there (.there (.there .here))))) (fun _ => (by first | exact (ba_len _ _).trans (ba_len _ _).symm | exact (wa_len _ _).trans (wa_len _ _).symm | exact ba_len _ _ | exact wa_len _ _ | rfl | (simp only [wa_len, ba_len, List.length_append, List.length_cons, List.length_nil]))) ?_
      refine mv rfl (.t rfl rfl) (.u rfl) ?_
      refine mv rfl (.t rfl rfl) (.u rfl) ?_
      refine ln rfl (.t rfl rfl) Fx.sn50 (.u rfl) ?_
      refine arn (((M.length - 1) : Nat) : Int) rfl (.t rfl rfl) (.u rfl) (.u rfl) rfl (fun _ => by omega) (fun _ => wrap_i64 (by omega) (by omega)) ?_
      refine kv rfl (.t rfl rfl) Fx.go31 (Eva.cons (.u rfl) (Eva.cons (.u rfl) (Eva.cons (.u rfl) (Eva.cons (.u rfl) Eva.nil)))) (fun _ => told16_ok _ _ pR70 _ _ root h hRM M (M.length - 1) _ hP70 hsRM (by rw [← List.length_map (f := (·.2)), eP70, eR70]; simp; omega)) ?_
      refine pkA rfl .no (.u rfl) (.u rfl) ?_
      refine wo_b true (by rw [eP70, eR70, show M.length - 1 = (fewL ps).length by omega]; exact told_cut (by omega)) ?_
      refine mv rfl .no (.u rfl) ?_
      refine fz rfl (.t rfl rfl) Fx.fo52_3 (.u rfl) ?_
      refine ld rfl (.t rfl rfl) Fx.ag4 (.u rfl) (fun _ => Rd.own (.there .here) (by first | exact wap_f rfl | rfl)) ?_
      refine pkA rfl .no (.u rfl) (.u rfl) ?_
      refine wo_b true (by rw [eR70]; simp <;> omega) ?_
      refine mv rfl .no (.u rfl) ?_
      refine fz rfl (.t rfl rfl) Fx.fo52_2 (.u rfl) ?_
      refine ld rfl (.t rfl rfl) Fx.ag3 (.u rfl) (fun _ => Rd.own (.there .here) (by first | exact wap_f rfl | rfl)) ?_
      refine mv rfl (.t rfl rfl) (.u rfl) ?_
      refine cp rfl (.t rfl rfl) (.u rfl) (.u rfl) rfl ?_
      refine pkA rfl .no (.u rfl) (.u rfl) ?_
      refine wo_b true (by rw [eR70]; simp only [Bool.true_and, beq_iff_eq] <;> omega) ?_
      refine mv rfl .no (.u rfl) ?_
      refine lA rfl (.t rfl rfl) Fx.ag52 (.u rfl) (fun _ => RdN.own .here) (fun _ => (by first | exact (ba_len _ _).trans (ba_len _ _).symm | exact (wa_len _ _).trans (wa_len _ _).symm | exact ba_len _ _ | exact wa_len _ _ | rfl | (simp only [wa_len, ba_len, List.length_append, List.length_cons, List.length_nil]))) ?_
      refine lA rfl (.t rfl rfl) Fx.ag47 (.u rfl) (fun _ => RdN.own (.there (.there (.there (.there .here))))) (fun _ => (by first | exact (ba_len _ _).trans (ba_len _ _).symm | exact (wa_len _ _).trans (wa_len _ _).symm | exact ba_len _ _ | exact wa_len _ _ | rfl | (simp only [wa_len, ba_len, List.length_append, List.length_cons, List.length_nil]))) ?_
      refine mv rfl (.t rfl rfl) (.u rfl) ?_
      refine mv rfl (.t rfl rfl) (.u rfl) ?_
      refine ln rfl (.t rfl rfl) Fx.sn50 (.u rfl) ?_
      refine arn (((M.length - 1) : Nat) : Int) rfl (.t rfl rfl) (.u rfl) (.u rfl) rfl (fun _ => by omega) (fun _ => wrap_i64 (by omega) (by omega)) ?_
      refine kv rfl (.t rfl rfl) Fx.go31 (Eva.cons (.u rfl) (Eva.cons (.u rfl) (Eva.cons (.u rfl) (Eva.cons (.u rfl) Eva.nil)))) (fun _ => told16_ok _ _ pR79 _ _ root h hRM M (M.length - 1) _ hP79 hsRM (by rw [← List.length_map (f := (·.2)), eP79, eR79]; simp; omega)) ?_
      refine pkA rfl .no (.u rfl) (.u rfl) ?_
      refine wo_b true (by rw [eP79, eR79, show M.length - 1 = (fewL ps).length by omega]; exact told_cut (by omega)) ?_
      refine mv rfl .no (.u rfl) ?_
      refine fz rfl (.t rfl rfl) Fx.fo52_3 (.u rfl) ?_
      refine ld rfl (.t rfl rfl) Fx.ag4 (.u rfl) (fun _ => Rd.own .here (by first | exact wap_f rfl | rfl)) ?_
      refine nt rfl (.t rfl rfl) (.u rfl) ?_
      refine pkA rfl .no (.u rfl) (.u rfl) ?_
      refine wo_b true (by rw [eR79]; simp <;> omega) ?_
      refine asg rfl .no (.u rfl) ?_
      refine .nil ?_
      refine .code ?_
      refine .ret ?_
      refine We.fin0 Tryd.results14 (.tmp rfl .nil) ?_
      exact ⟨rfl, rfl⟩
    · have c2k := c2
      try simp only [decide_eq_true_eq, decide_eq_false_iff_not, Int.not_lt, Int.not_le, gt_iff_lt, ge_iff_le, Bool.or_eq_true, Bool.and_eq_true, Bool.or_eq_false_iff, Bool.and_eq_false_iff, Bool.not_eq_true', Bool.not_eq_false', Int.toNat_natCast, bne_iff_ne, beq_iff_eq, bne_eq_false_iff_eq, beq_eq_false_iff_ne, ne_eq] at c2
      have hw : 30 = 30 + endL (sealAt root h) 0 (M.map (·.2)) (fewL ps).length := by rw [show (fewL ps).length = 0 by omega, end_zero]
      refine .skip ?_
      refine .code ?_
      refine .seq ?_
      refine wk_fb .here (by first | (intro b hb; cases hb; done) | simp [keys, Res.keys]) ?_; intro GfRB hRB hleRB evRB hsRB; subst evRB
      have hs := hs.mono hleRB
      have hsp := hsp.mono hleRB
      have hK := hK.mono hleRB
      have hF := hF.mono hleRB
      have hAM := hAM.mono hleRB
      have hsRM := hsRM.mono hleRB
      have hsRE := hsRE.mono hleRB
      refine Wk.rg [0, 1, 2, 3, 4, 5, 6, 7, 8, 9] rfl rfl ?_
      refine fz rfl .no FxWalG.fo47_0 (.u rfl) ?_
      refine lA rfl .no Fx.ag42 (.u rfl) (fun _ => RdN.part (n := 32) (cs' := ba 32 root) (.there .here) (app_l)) (fun _ => (by first | exact (ba_len _ _).trans (ba_len _ _).symm | exact (wa_len _ _).trans (wa_len _ _).symm | exact ba_len _ _ | exact wa_len _ _ | rfl | (simp only [wa_len, ba_len, List.length_append, List.length_cons, List.length_nil]))) ?_
      refine mv rfl .no (.u rfl) ?_
      refine kc rfl Fx.go25 (Eva.cons (.u rfl) (Eva.cons (.u rfl) Eva.nil)) (wRead_o root B hRB _ hsRB hK (by omega)) ?_
      rintro _ G59 μ59 hG59 ⟨RP59, sR59, pR59, eR59, hP59, eP59, rfl, rfl⟩
      have hs := hs.mono hG59
      have hsp := hsp.mono hG59
      have hK := hK.mono hG59
      have hF := hF.mono hG59
      have hAM := hAM.mono hG59
      have hsRM := hsRM.mono hG59
      have hsRE := hsRE.mono hG59
      have hsRB := hsRB.mono hG59
      refine mv rfl .no (.u rfl) ?_
      refine ex rfl .no (.u rfl) rfl ?_
      refine ex rfl .no (.u rfl) rfl ?_
      refine al rfl Fx.zr52 ?_; intro b13
      refine sw rfl (.u rfl) (.u rfl) rfl Fx.sz52 .here (by first | exact (ba_len _ _).trans (ba_len _ _).symm | exact (wa_len _ _).trans (wa_len _ _).symm | exact ba_len _ _ | exact wa_len _ _ | rfl | (simp only [wa_len, ba_len, List.length_append, List.length_cons, List.length_nil])) (one8 rfl rfl rfl rfl rfl rfl rfl rfl) ?_
      refine asg rfl .no (.u rfl) ?_
      refine .nil ?_
      refine .code ?_
      refine .seq ?_
      refine Wk.draw (mc := ⟨false, false⟩) [0, 1, 2, 3, 4, 5, 6, 7, 8, 9, 10, 11, 12, 13] Fx.mix (by kernel_rfl) ?_
      refine fz rfl .no FxWalG.fo47_0 (.u rfl) ?_
      refine lA rfl .no Fx.ag42 (.u rfl) (fun _ => RdN.part (n := 32) (cs' := ba 32 root) (.there (.there .here)) (app_l)) (fun _ => (by first | exact (ba_len _ _).trans (ba_len _ _).symm | exact (wa_len _ _).trans (wa_len _ _).symm | exact ba_len _ _ | exact wa_len _ _ | rfl | (simp only [wa_len, ba_len, List.length_append, List.length_cons, List.length_nil]))) ?_
      refine mv rfl .no (.u rfl) ?_
      refine mv rfl .no (.u rfl) ?_
      refine ln rfl .no Fx.sn27 (.u rfl) ?_
      refine arn (((B.length - 1) : Nat) : Int) rfl .no (.u rfl) (.u rfl) rfl (fun _ => by omega) (fun _ => wrap_i64 (by omega) (by omega)) ?_
      refine kE ((B.length - 1)) rfl .no Fx.se27 hsRB (.u rfl) (.u rfl) (fun _ => by omega) (fun _ => by omega) ?_
      intro h69 L69 eL69 lL69 hs69
      have lL69 := lL69 rfl
      refine kc rfl Fx.go25 (Eva.cons (.u rfl) (Eva.cons (.u rfl) Eva.nil)) (wRead_o root L69 h69 _ hs69 hK (by omega)) ?_
      rintro _ G70 μ70 hG70 ⟨RP70, sR70, pR70, eR70, hP70, eP70, rfl, rfl⟩
      have hs := hs.mono hG70
      have hsp := hsp.mono hG70
      have hK := hK.mono hG70
      have hF := hF.mono hG70
      have hAM := hAM.mono hG70
      have hsRM := hsRM.mono hG70
      have hsRE := hsRE.mono hG70
      have hsRB := hsRB.mono hG70
      have hP59 := hP59.mono hG70
      have hs69 := hs69.mono hG70
      refine mv rfl .no (.u rfl) ?_
      refine ex rfl .no (.u rfl) rfl ?_
      refine ex rfl .no (.u rfl) rfl ?_
      refine al rfl Fx.zr52 ?_; intro b15
      refine sw rfl (.u rfl) (.u rfl) rfl Fx.sz52 .here (by first | exact (ba_len _ _).trans (ba_len _ _).symm | exact (wa_len _ _).trans (wa_len _ _).symm | exact ba_len _ _ | exact wa_len _ _ | rfl | (simp only [wa_len, ba_len, List.length_append, List.length_cons, List.length_nil])) (one8 rfl rfl rfl rfl rfl rfl rfl rfl) ?_
      refine asg rfl .no (.u rfl) ?_
      refine .nil ?_
      refine .code ?_
      refine .seq ?_
      refine Wk.draw (mc := ⟨false, false⟩) [0, 1, 2, 3, 4, 5, 6, 7, 8, 9, 10, 11] Fx.mix (by kernel_rfl) ?_
      refine fz rfl .no FxWalG.fo47_0 (.u rfl) ?_
      refine lA rfl .no Fx.ag42 (.u rfl) (fun _ => RdN.part (n := 32) (cs' := ba 32 root) (.there (.there (.there .here))) (app_l)) (fun _ => (by first | exact (ba_len _ _).trans (ba_len _ _).symm | exact (wa_len _ _).trans (wa_len _ _).symm | exact ba_len _ _ | exact wa_len _ _ | rfl | (simp only [wa_len, ba_len, List.length_append, List.length_cons, List.length_nil]))) ?_
      refine mv rfl .no (.u rfl) ?_
      refine mv rfl .no (.u rfl) ?_
      refine kE (30) rfl .no Fx.se27 hsRB (.u rfl) (.u rfl) (fun _ => by omega) (fun _ => by omega) ?_
      intro h78 L78 eL78 lL78 hs78
      have lL78 := lL78 rfl
      refine kc rfl Fx.go25 (Eva.cons (.u rfl) (Eva.cons (.u rfl) Eva.nil)) (wRead_o root L78 h78 _ hs78 hK (by omega)) ?_
      rintro _ G79 μ79 hG79 ⟨RP79, sR79, pR79, eR79, hP79, eP79, rfl, rfl⟩
      have hs := hs.mono hG79
      have hsp := hsp.mono hG79
      have hK := hK.mono hG79
      have hF := hF.mono hG79
      have hAM := hAM.mono hG79
      have hsRM := hsRM.mono hG79
      have hsRE := hsRE.mono hG79
      have hsRB := hsRB.mono hG79
      have hP59 := hP59.mono hG79
      have hs69 := hs69.mono hG79
      have hP70 := hP70.mono hG79
      have hs78 := hs78.mono hG79
      refine mv rfl .no (.u rfl) ?_
      refine ex rfl .no (.u rfl) rfl ?_
      refine ex rfl .no (.u rfl) rfl ?_
      refine al rfl Fx.zr52 ?_; intro b17
      refine sw rfl (.u rfl) (.u rfl) rfl Fx.sz52 .here (by first | exact (ba_len _ _).trans (ba_len _ _).symm | exact (wa_len _ _).trans (wa_len _ _).symm | exact ba_len _ _ | exact wa_len _ _ | rfl | (simp only [wa_len, ba_len, List.length_append, List.length_cons, List.length_nil])) (one8 rfl rfl rfl rfl rfl rfl rfl rfl) ?_
      refine asg rfl .no (.u rfl) ?_
      refine .nil ?_
      rw [eB, log_back _ hr, ← eB] at eR59
      have e1 := log_more (root := root) (h := h) (rs := M.map (·.2)) (N := (fewL ps).length) hr lR (k := B.length - 1) (by omega) (by rw [← eB]; omega)
      have e2 := log_more (root := root) (h := h) (rs := M.map (·.2)) (N := (fewL ps).length) hr lR (k := 30) (by omega) (by rw [← eB]; omega)
      rw [← eB, ← eL69] at e1
      rw [← eB, ← eL78] at e2
      have eR70 := eR70.trans e1
      have eR79 := eR79.trans e2
      refine .code ?_
      refine .seq ?_
      refine Wk.rg [0, 1, 2, 3, 4, 5, 6, 7, 8, 9, 10, 11, 12, 13, 14, 15, 16, 17, 18, 19, 20, 21, 22, 23, 24, 25, 26, 27, 28, 29, 30, 31, 32, 33, 34, 35, 36, 37, 38, 39, 40, 41, 42, 43, 44, 45, 46, 47, 48, 49, 50, 51, 52, 53, 54] rfl rfl ?_
      refine mv rfl .no (.u rfl) ?_
      refine mv rfl .no (.u rfl) ?_
      refine mv rfl (.t rfl rfl) (.u rfl) ?_
      refine cp rfl (.t rfl rfl) (.u rfl) (.u rfl) rfl ?_
      refine pkA rfl .no (.u rfl) (.u rfl) ?_
      refine wo_b true (by rw [eR59]; rfl) ?_
      refine mv rfl .no (.u rfl) ?_
      refine mv rfl (.t rfl rfl) (.u rfl) ?_
      refine cp rfl (.t rfl rfl) (.u rfl) (.u rfl) rfl ?_
      refine pkA rfl .no (.u rfl) (.u rfl) ?_
      refine wo_b true (by rw [eR70]; rfl) ?_
      refine mv rfl .no (.u rfl) ?_
      refine mv rfl (.t rfl rfl) (.u rfl) ?_
      refine cp rfl (.t rfl rfl) (.u rfl) (.u rfl) rfl ?_
      refine pkA rfl .no (.u rfl) (.u rfl) ?_
      refine wo_b true (by rw [eR79]; rfl) ?_
      refine mv rfl .no (.u rfl) ?_
      refine lA rfl (.t rfl rfl) Fx.ag52 (.u rfl) (fun _ => RdN.own (.there (.there .here))) (fun _ => (by first | exact (ba_len _ _).trans (ba_len _ _).symm | exact (wa_len _ _).trans (wa_len _ _).symm | exact ba_len _ _ | exact wa_len _ _ | rfl | (simp only [wa_len, ba_len, List.length_append, List.length_cons, List.length_nil]))) ?_
      refine lA rfl (.t rfl rfl) Fx.ag47 (.u rfl) (fun _ => RdN.own (.there (.there (.there (.there .here))))) (fun _ => (by first | exact (ba_len _ _).trans (ba_len _ _).symm | exact (wa_len _ _).trans (wa_len _ _).symm | exact ba_len _ _ | exact wa_len _ _ | rfl | (simp only [wa_len, ba_len, List.length_append, List.length_cons, List.length_nil]))) ?_
      refine mv rfl (.t rfl rfl) (.u rfl) ?_
      refine mv rfl (.t rfl rfl) (.u rfl) ?_
      refine ln rfl (.t rfl rfl) Fx.sn50 (.u rfl) ?_
      refine kv rfl (.t rfl rfl) Fx.go31 (Eva.cons (.u rfl) (Eva.cons (.u rfl) (Eva.cons (.u rfl) (Eva.cons (.u rfl) Eva.nil)))) (fun _ => told16_ok _ _ pR59 _ _ root h hRM M M.length _ hP59 hsRM (by rw [← List.length_map (f := (·.2)), eP59, eR59]; simp; omega)) ?_
      refine pkA rfl .no (.u rfl) (.u rfl) ?_
      refine wo_b true (by rw [eP59, eR59]; exact told_back (by rw [List.length_map])) ?_
      refine mv rfl .no (.u rfl) ?_
      refine lA rfl (.t rfl rfl) Fx.ag52 (.u rfl) (fun _ => RdN.own (.there .here)) (fun _ => (by first | exact (ba_len _ _).trans (ba_len _ _).symm | exact (wa_len _ _).trans (wa_len _ _).symm | exact ba_len _ _ | exact wa_len _ _ | rfl | (simp only [wa_len, ba_len, List.length_append, List.length_cons, List.length_nil]))) ?_
      refine lA rfl (.t rfl rfl) Fx.ag47 (.u rfl) (fun _ => RdN.own (.there (.there (.there (.there .here))))) (fun _ => (by first | exact (ba_len _ _).trans (ba_len _ _).symm | exact (wa_len _ _).trans (wa_len _ _).symm | exact ba_len _ _ | exact wa_len _ _ | rfl | (simp only [wa_len, ba_len, List.length_append, List.length_cons, List.length_nil]))) ?_
      refine mv rfl (.t rfl rfl) (.u rfl) ?_
      refine mv rfl (.t rfl rfl) (.u rfl) ?_
      refine ln rfl (.t rfl rfl) Fx.sn50 (.u rfl) ?_
      refine arn (((M.length - 1) : Nat) : Int) rfl (.t rfl rfl) (.u rfl) (.u rfl) rfl (fun _ => by omega) (fun _ => wrap_i64 (by omega) (by omega)) ?_
      refine kv rfl (.t rfl rfl) Fx.go31 (Eva.cons (.u rfl) (Eva.cons (.u rfl) (Eva.cons (.u rfl) (Eva.cons (.u rfl) Eva.nil)))) (fun _ => told16_ok _ _ pR70 _ _ root h hRM M (M.length - 1) _ hP70 hsRM (by rw [← List.length_map (f := (·.2)), eP70, eR70]; simp; omega)) ?_
      refine pkA rfl .no (.u rfl) (.u rfl) ?_
      refine wo_b true (by rw [eP70, eR70, show M.length - 1 = (fewL ps).length by omega]; exact told_cut (by omega)) ?_
      refine mv rfl .no (.u rfl) ?_
      refine fz rfl (.t rfl rfl) Fx.fo52_3 (.u rfl) ?_
      refine ld rfl (.t rfl rfl) Fx.ag4 (.u rfl) (fun _ => Rd.own (.there .here) (by first | exact wap_f rfl | rfl)) ?_
      refine pkA rfl .no (.u rfl) (.u rfl) ?_
      refine wo_b true (by rw [eR70]; simp <;> omega) ?_
      refine mv rfl .no (.u rfl) ?_
      refine fz rfl (.t rfl rfl) Fx.fo52_2 (.u rfl) ?_
      refine ld rfl (.t rfl rfl) Fx.ag3 (.u rfl) (fun _ => Rd.own (.there .here) (by first | exact wap_f rfl | rfl)) ?_
      refine mv rfl (.t rfl rfl) (.u rfl) ?_
      refine cp rfl (.t rfl rfl) (.u rfl) (.u rfl) rfl ?_
      refine pkA rfl .no (.u rfl) (.u rfl) ?_
      refine wo_b true (by rw [eR70]; simp only [Bool.true_and, beq_iff_eq] <;> omega) ?_
      refine mv rfl .no (.u rfl) ?_
      refine lA rfl (.t rfl rfl) Fx.ag52 (.u rfl) (fun _ => RdN.own .here) (fun _ => (by first | exact (ba_len _ _).trans (ba_len _ _).symm | exact (wa_len _ _).trans (wa_len _ _).symm | exact ba_len _ _ | exact wa_len _ _ | rfl | (simp only [wa_len, ba_len, List.length_append, List.length_cons, List.length_nil]))) ?_
      refine lA rfl (.t rfl rfl) Fx.ag47 (.u rfl) (fun _ => RdN.own (.there (.there (.there (.there .here))))) (fun _ => (by first | exact (ba_len _ _).trans (ba_len _ _).symm | exact (wa_len _ _).trans (wa_len _ _).symm | exact ba_len _ _ | exact wa_len _ _ | rfl | (simp only [wa_len, ba_len, List.length_append, List.length_cons, List.length_nil]))) ?_
      refine mv rfl (.t rfl rfl) (.u rfl) ?_
      refine mv rfl (.t rfl rfl) (.u rfl) ?_
      refine ln rfl (.t rfl rfl) Fx.sn50 (.u rfl) ?_
      refine arn (((M.length - 1) : Nat) : Int) rfl (.t rfl rfl) (.u rfl) (.u rfl) rfl (fun _ => by omega) (fun _ => wrap_i64 (by omega) (by omega)) ?_
      refine kv rfl (.t rfl rfl) Fx.go31 (Eva.cons (.u rfl) (Eva.cons (.u rfl) (Eva.cons (.u rfl) (Eva.cons (.u rfl) Eva.nil)))) (fun _ => told16_ok _ _ pR79 _ _ root h hRM M (M.length - 1) _ hP79 hsRM (by rw [← List.length_map (f := (·.2)), eP79, eR79]; simp; omega)) ?_
      refine pkA rfl .no (.u rfl) (.u rfl) ?_
      refine wo_b true (by rw [eP79, eR79, show M.length - 1 = (fewL ps).length by omega]; exact told_cut (by omega)) ?_
      refine mv rfl .no (.u rfl) ?_
      refine fz rfl (.t rfl rfl) Fx.fo52_3 (.u rfl) ?_
      refine ld rfl (.t rfl rfl) Fx.ag4 (.u rfl) (fun _ => Rd.own .here (by first | exact wap_f rfl | rfl)) ?_
      refine nt rfl (.t rfl rfl) (.u rfl) ?_
      refine pkA rfl .no (.u rfl) (.u rfl) ?_
      refine wo_b true (by rw [eR79]; simp <;> omega) ?_
      refine asg rfl .no (.u rfl) ?_
      refine .nil ?_
      refine .code ?_
      refine .ret ?_
      refine We.fin0 Tryd.results14 (.tmp rfl .nil) ?_
      exact ⟨rfl, rfl⟩

end Go.Proofs.YtoogjfldgeiapaaDoor
