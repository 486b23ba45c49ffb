/- Lemmas and contracts, joined: Contracts of functions, walked. -/
import Derived.Test.YtbdnclpopappeaaDoorTk3
set_option linter.unusedSimpArgs false
set_option linter.unusedVariables false
set_option linter.unusedSectionVars false
namespace Go.Proofs.YtbdnclpopappeaaDoor
set_option linter.unusedSimpArgs false
set_option linter.unusedVariables false
open Go.Tan Go.RowKit

namespace Fx
theorem zv36 : (Tryd.prog.info? 36).bind (·.zero) = some (.slice none 0 0) := by kernel_rfl
theorem go45 : goFn Tryd.prog 45 = true := by kernel_rfl
end Fx
theorem SlP.one {G : PM} {b T : Nat} {h1 : Sh} {L1 : List Y} (hle : PM.le G (G.add b (cl [h1.val L1.length] T))) (hs : SlR G 1 encY h1 L1) : SlP (G.add b (cl [h1.val L1.length] T)) ⟨some ⟨b, 0, none⟩, 1⟩ [(h1, L1)] :=
  ⟨SlR.ofBlk (T := T) (PM.add_same _ _ _) (fun _ _ => rfl) (by simp), fun p hp => by rw [List.mem_singleton.1 hp]; exact hs.mono hle⟩
theorem SlP.two {G : PM} {b T : Nat} {h1 h2 : Sh} {L1 L2 : List Y} (hle : PM.le G (G.add b (cl [h1.val L1.length, h2.val L2.length] T))) (hs : SlR G 1 encY h1 L1) (hs2 : SlR G 1 encY h2 L2) : SlP (G.add b (cl [h1.val L1.length, h2.val L2.length] T)) ⟨some ⟨b, 0, none⟩, 2⟩ [(h1, L1), (h2, L2)] :=
  ⟨SlR.ofBlk (T := T) (PM.add_same _ _ _) (fun _ _ => rfl) (by simp), fun p hp => by
    rcases List.mem_cons.1 hp with rfl | hp
    · exact hs.mono hle
    · rw [List.mem_singleton.1 hp]; exact hs2.mono hle⟩
theorem SlP.four {G : PM} {b T : Nat} {h1 h2 h3 h4 : Sh} {L1 L2 L3 L4 : List Y} (hle : PM.le G (G.add b (cl [h1.val L1.length, h2.val L2.length, h3.val L3.length, h4.val L4.length] T))) (hs : SlR G 1 encY h1 L1) (hs2 : SlR G 1 encY h2 L2) (hs3 : SlR G 1 encY h3 L3) (hs4 : SlR G 1 encY h4 L4) :
    SlP (G.add b (cl [h1.val L1.length, h2.val L2.length, h3.val L3.length, h4.val L4.length] T)) ⟨some ⟨b, 0, none⟩, 4⟩ [(h1, L1), (h2, L2), (h3, L3), (h4, L4)] :=
  ⟨SlR.ofBlk (T := T) (PM.add_same _ _ _) (fun _ _ => rfl) (by simp), fun p hp => by
    simp only [List.mem_cons, List.not_mem_nil, or_false] at hp
    rcases hp with rfl | rfl | rfl | rfl
    · exact hs.mono hle
    · exact hs2.mono hle
    · exact hs3.mono hle
    · exact hs4.mono hle⟩
theorem sum1_ok {G : PM} {b T : Nat} {h1 : Sh} {L1 : List Y} (hle : PM.le G (G.add b (cl [h1.val L1.length] T))) (hs : SlR G 1 encY h1 L1) (hK : RdNP G 0 0 (wa 64 kW)) (hl : L1.length ≤ 1152921504606846976) : Ct Tryd.prog 45 ([.slice (some ⟨b, 0, none⟩) 1 1] : List Value).toArray (G.add b (cl [h1.val L1.length] T)) [] (fun _ μ' u => μ' = [] ∧ u = .agg (ba 32 (shaD L1)).toArray) := by
  have h := shaSum_ok [(h1, L1)] ⟨some ⟨b, 0, none⟩, 1⟩ _ (SlP.one hle hs) (hK.mono hle) (by simpa [catL] using hl) (by simp)
  rw [show catL [(h1, L1)] = L1 by simp [catL]] at h
  exact h
theorem sum2_ok {G : PM} {b T : Nat} {h1 h2 : Sh} {L1 L2 : List Y} (hle : PM.le G (G.add b (cl [h1.val L1.length, h2.val L2.length] T))) (hs : SlR G 1 encY h1 L1) (hs2 : SlR G 1 encY h2 L2) (hK : RdNP G 0 0 (wa 64 kW)) (hl : L1.length + L2.length ≤ 1152921504606846976) : Ct Tryd.prog 45 ([.slice (some ⟨b, 0, none⟩) 2 2] : List Value).toArray (G.add b (cl [h1.val L1.length, h2.val L2.length] T)) [] (fun _ μ' u => μ' = [] ∧ u = .agg (ba 32 (shaD (L1 ++ L2))).toArray) := by
  have h := shaSum_ok [(h1, L1), (h2, L2)] ⟨some ⟨b, 0, none⟩, 2⟩ _ (SlP.two hle hs hs2) (hK.mono hle) (by simpa [catL] using hl) (by simp)
  rw [show catL [(h1, L1), (h2, L2)] = L1 ++ L2 by simp [catL]] at h
  exact h
theorem outs_step2 {f g : Nat → Y} {k : Nat} {a b : Y} (ef : f = outs g k) (h : b = g k) : upd (upd f k a) k b = outs g (k + 1) := by
  rw [upd_upd, ef, h]; rfl
theorem outs_step1 {f g : Nat → Y} {k : Nat} {a : Y} (ef : f = outs g k) (h : a = g k) : upd f k a = outs g (k + 1) := by
  rw [ef, h]; rfl
theorem pads_ok (key : List Y) (h : Sh) (G : PM) (hs : SlR G 1 encY h key) (hK : RdNP G 0 0 (wa 64 kW)) (hl : key.length ≤ 140737488351232) : Ct Tryd.prog 86 ([h.val key.length] : List Value).toArray G [] (fun _ μ' u => μ' = [] ∧ u = .tuple #[.agg (ba 64 (padF key 54#8)).toArray, .agg (ba 64 (padF key 92#8)).toArray]) := by
  refine Ct.of Tryd.func86 rfl Tryd.ntmps86 rfl fun w0 hs0 => ?_
  refine .seq ?_
  refine Wk.rg [0, 1] rfl rfl ?_
  refine al rfl Fx.zq156 ?_; intro b2
  refine al rfl Fx.zq156 ?_; intro b3
  refine .nil ?_
  refine .code ?_
  refine .seq ?_
  refine .seq ?_
  refine Wk.rg [0, 1, 2] rfl rfl ?_
  refine mv rfl .no (.u rfl) ?_
  refine ln rfl .no Fx.sn36 (.u rfl) ?_
  refine cp rfl .no (.u rfl) (.u rfl) rfl ?_
  refine .nil ?_
  refine .code ?_
  refine .cond rfl (fun c1 => ?_) (fun c1 => ?_)
  · have c1k := c1
    try simp only [decide_eq_true_eq, decide_eq_false_iff_not, Int.not_lt, Int.not_le, gt_iff_lt, ge_iff_le, Bool.or_eq_true, Bool.and_eq_true, Bool.or_eq_false_iff, Bool.not_eq_true', Bool.not_eq_false', Int.toNat_natCast, bne_iff_ne, beq_iff_eq, bne_eq_false_iff_eq, beq_eq_false_iff_ne, ne_eq] at c1
    have ek1 : keyL key = shaL key := by unfold keyL; rw [if_pos (by omega)]
    refine .seq ?_
    refine Wk.rg [0, 1, 2, 3, 4] rfl rfl ?_
    refine mv rfl .no (.u rfl) ?_
    refine Go.Tan.b1 rfl Fx.se56 Fx.zv36 (.u rfl) rfl rfl (by decide) ?_; intro b10
    refine kp rfl .no Fx.go45 (Eva.cons (.u rfl) Eva.nil) (Gp.add .here Gp.nil) (fun _ hle hq => sum1_ok hle hs hK (by omega)) ?_
    refine al rfl Fx.zq23 ?_; intro b4
    refine sw rfl (.u rfl) (.u rfl) rfl Fx.sz23 .here (by first | exact (ba_len _ _).trans (ba_len _ _).symm | exact (wa_len _ _).trans (wa_len _ _).symm | exact ba_len _ _ | exact wa_len _ _ | rfl | (simp only [wa_len, ba_len, List.length_append, List.length_cons, List.length_nil])) (by first | exact ba_one _ _ | exact wa_one _ _ | exact one_V _ | decide | exact one_app (wa_one _ _) (by simp [Value.oneCell'])) ?_
    refine .nil ?_
    refine .code ?_
    refine wk_fz .here (by intro b hb; cases hb) ?_; intro Gfb4 hleb4 hbb4
    have hs := hs.mono hleb4
    have hK := hK.mono hleb4
    refine Wk.rg [0, 1] rfl rfl ?_
    refine kA rfl .no Fx.ar23 (.u rfl) hbb4 (by first | exact ba_all | exact app_l | exact app_r) ?_; intro h12 L12 eL12 lL12 hs12
    refine asg rfl .no (.u rfl) ?_
    refine .nil ?_
    have ek1 : keyL key = L12 := by rw [ek1, eL12]; rfl
    refine .code ?_
    refine .seq ?_
    refine .seq ?_
    skip
    refine Wk.rg [0] rfl rfl ?_
    refine mv rfl .no (.u rfl) ?_
    refine .nil ?_
    refine .code ?_
    refine .block ?_
    refine Wk.lop (α := Nat × (Nat → Y) × (Nat → Y)) (fun gh => [(13, true, .int .i64 (gh.1 : Int))]) (fun gh => [.blk b3 (cl (ba 64 gh.2.2) 156), .blk b2 (cl (ba 64 gh.2.1) 156)])
      (fun gh Gl => (gh.1 ≤ 64) ∧ (gh.2.1 = outs (padF key 54#8) gh.1) ∧ (gh.2.2 = outs (padF key 92#8) gh.1)) (fun gh => 64 - gh.1) (0, fun _ => 0#8, fun _ => 0#8) [(0, true, _), (2, true, _), (3, true, _)] [_]
      (ESub.cons rfl (by first | rfl | exact evi (by omega)) (ESub.cons rfl rfl (ESub.cons rfl rfl (ESub.cons rfl rfl ESub.nil))))
      (MSub.cons (.there .here) rfl (MSub.cons (.there .here) rfl (MSub.cons .here rfl MSub.nil))) ?_ ?_
    · refine ⟨?_, ?_, ?_⟩
      · (try dsimp only) <;> (first | omega | rfl | assumption | (simp; done))
      · (try dsimp only) <;> (first | omega | rfl | assumption | (simp; done))
      · (try dsimp only) <;> (first | omega | rfl | assumption | (simp; done))
    intro gh N0 Gl0 hN0 hGl0 hF0
    obtain ⟨k, f, f2⟩ := gh; dsimp only at hF0 hN0 ⊢
    obtain ⟨hk, ef, ef2⟩ := hF0
    have hs := hs.mono hGl0
    have hK := hK.mono hGl0
    have hbb4 := hbb4.mono hGl0
    have hs12 := hs12.mono hGl0
    refine .seq ?_
    refine Wk.rg [0] rfl rfl ?_
    refine cp rfl .no (.u rfl) (.u rfl) rfl ?_
    refine .nil ?_
    refine .code ?_
    refine .seq ?_
    refine .cond rfl (fun c2 => ?_) (fun c2 => ?_)
    · have c2k := c2
      try simp only [decide_eq_true_eq, decide_eq_false_iff_not, Int.not_lt, Int.not_le, gt_iff_lt, ge_iff_le, Bool.or_eq_true, Bool.and_eq_true, Bool.or_eq_false_iff, Bool.not_eq_true', Bool.not_eq_false', Int.toNat_natCast, bne_iff_ne, beq_iff_eq, bne_eq_false_iff_eq, beq_eq_false_iff_ne, ne_eq] at c2
      refine .skip ?_
      refine .code ?_
      refine .seq ?_
      refine .block ?_
      refine .seq ?_
      refine Wk.rg [0, 1] rfl rfl ?_
      refine mv rfl .no (.u rfl) ?_
      refine asg rfl .no (.u rfl) ?_
      refine .nil ?_
      refine .code ?_
      refine .seq ?_
      refine Wk.rg [0, 1, 2, 3, 4, 5] rfl rfl ?_
      refine mv rfl .no (.u rfl) ?_
      refine mv rfl .no (.u rfl) ?_
      refine iA rfl .no Fx.ar156 (.u rfl) (.u rfl) (fun _ => by omega) (fun _ => by omega) ?_
      refine s1 rfl (.u rfl) (.u rfl) rfl Fx.sz5 (.there .here) (by first | decide | (simp only [wa_len, ba_len, List.length_append, List.length_cons, List.length_nil]; omega)) (by first | exact ba_set1 (z := 54#8) (k) (by omega) | exact wa_set1 (z := 54#32) (k) (by omega) | rfl) ?_
      refine iA rfl .no Fx.ar156 (.u rfl) (.u rfl) (fun _ => by omega) (fun _ => by omega) ?_
      refine s1 rfl (.u rfl) (.u rfl) rfl Fx.sz5 (.there .here) (by first | decide | (simp only [wa_len, ba_len, List.length_append, List.length_cons, List.length_nil]; omega)) (by first | exact ba_set1 (z := 92#8) (k) (by omega) | exact wa_set1 (z := 92#32) (k) (by omega) | rfl) ?_
      refine .nil ?_
      refine .code ?_
      refine .seq ?_
      refine Wk.rg [0, 1, 2, 3] rfl rfl ?_
      refine mv rfl .no (.u rfl) ?_
      refine mv rfl .no (.u rfl) ?_
      refine ln rfl .no Fx.sn36 (.u rfl) ?_
      refine cp rfl .no (.u rfl) (.u rfl) rfl ?_
      refine .nil ?_
      refine .code ?_
      refine .cond rfl (fun c3 => ?_) (fun c3 => ?_)
      · have c3k := c3
        try simp only [decide_eq_true_eq, decide_eq_false_iff_not, Int.not_lt, Int.not_le, gt_iff_lt, ge_iff_le, Bool.or_eq_true, Bool.and_eq_true, Bool.or_eq_false_iff, Bool.not_eq_true', Bool.not_eq_false', Int.toNat_natCast, bne_iff_ne, beq_iff_eq, bne_eq_false_iff_eq, beq_eq_false_iff_ne, ne_eq] at c3
        refine .seq ?_
        refine Wk.draw (mc := ⟨false, false⟩) [0, 1, 2, 3, 4, 5, 6, 7, 8, 9] Fx.mix (by kernel_rfl) ?_
        refine mv rfl .no (.u rfl) ?_
        refine iA rfl .no Fx.ar156 (.u rfl) (.u rfl) (fun _ => by omega) (fun _ => by omega) ?_
        refine ld rfl .no Fx.ag5 (.u rfl) (fun _ => Rd.own (.there .here) (by first | exact wa_at1 (k) (by omega) (by omega) | exact ba_at1 (k) (by omega) (by omega) | exact wap_at1 (k) (by omega) (by omega) | rfl)) ?_
        refine mv rfl .no (.u rfl) ?_
        refine mv rfl .no (.u rfl) ?_
        refine ih rfl .no Fx.se36 (.u rfl) (.u rfl) (fun _ => by omega) (fun _ => by omega) (fun _ => hs12.nn (k := k) (by omega)) ?_
        refine ld rfl .no Fx.ag5 (.u rfl) (fun _ => (hs12.yat (k) (by omega) (by omega)).rd) ?_
        refine bw (k := .u8) rfl .no rfl (.u rfl) (.u rfl) rfl ?_
        refine iA rfl .no Fx.ar156 (.u rfl) (.u rfl) (fun _ => by omega) (fun _ => by omega) ?_
        refine s1 rfl (.u rfl) (.u rfl) rfl Fx.sz5 (.there .here) (by first | decide | (simp only [wa_len, ba_len, List.length_append, List.length_cons, List.length_nil]; omega)) (by first | exact wa_set1 (k) (by omega) | exact ba_set1 (k) (by omega) | exact wap_set1 (k) (by omega) (by omega) | rfl) ?_
        refine .nil ?_
        refine .code ?_
        refine Wk.draw (mc := ⟨false, false⟩) [0, 1, 2, 3, 4, 5, 6, 7, 8, 9] Fx.mix (by kernel_rfl) ?_
        refine mv rfl .no (.u rfl) ?_
        refine iA rfl .no Fx.ar156 (.u rfl) (.u rfl) (fun _ => by omega) (fun _ => by omega) ?_
        refine ld rfl .no Fx.ag5 (.u rfl) (fun _ => Rd.own (.there .here) (by first | exact wa_at1 (k) (by omega) (by omega) | exact ba_at1 (k) (by omega) (by omega) | exact wap_at1 (k) (by omega) (by omega) | rfl)) ?_
        refine mv rfl .no (.u rfl) ?_
        refine mv rfl .no (.u rfl) ?_
        refine ih rfl .no Fx.se36 (.u rfl) (.u rfl) (fun _ => by omega) (fun _ => by omega) (fun _ => hs12.nn (k := k) (by omega)) ?_
        refine ld rfl .no Fx.ag5 (.u rfl) (fun _ => (hs12.yat (k) (by omega) (by omega)).rd) ?_
        refine bw (k := .u8) rfl .no rfl (.u rfl) (.u rfl) rfl ?_
        refine iA rfl .no Fx.ar156 (.u rfl) (.u rfl) (fun _ => by omega) (fun _ => by omega) ?_
        refine s1 rfl (.u rfl) (.u rfl) rfl Fx.sz5 (.there .here) (by first | decide | (simp only [wa_len, ba_len, List.length_append, List.length_cons, List.length_nil]; omega)) (by first | exact wa_set1 (k) (by omega) | exact ba_set1 (k) (by omega) | exact wap_set1 (k) (by omega) (by omega) | rfl) ?_
        refine .nil ?_
        refine .blk ?_
        refine .code ?_
        refine Wk.rg [0, 1] rfl rfl ?_
        refine arn (((k + 1) : Nat) : Int) rfl .no (.u rfl) (.u rfl) rfl (fun _ => by omega) (fun _ => wrap_i64 (by omega) (by omega)) ?_
        refine mv rfl .no (.u rfl) ?_
        refine .nil ?_
        refine We.lpo (k + 1, upd (upd f k 54#8) k (upd f k 54#8 k ^^^ L12.getD k 0), upd (upd f2 k 92#8) k (upd f2 k 92#8 k ^^^ L12.getD k 0)) ?_ ?_ ?_ ?_ ?_
        · exact (ESub.cons rfl (by first | rfl | exact evi (by omega)) (ESub.cons rfl rfl (ESub.cons rfl rfl (ESub.cons rfl rfl ESub.nil))))
        · exact (MSub.cons .here rfl (MSub.cons .here rfl (MSub.cons .here rfl MSub.nil)))
        · first | omega | (dsimp only; omega)
        · exact hGl0
        · refine ⟨?_, ?_, ?_⟩
          · (try dsimp only) <;> (first | omega | rfl | assumption | (simp; done))
          · (try dsimp only) <;> (exact outs_step2 ef (by rw [upd_at, padF, ek1, if_pos (by omega)]))
          · (try dsimp only) <;> (exact outs_step2 ef2 (by rw [upd_at, padF, ek1, if_pos (by omega)]))
      · have c3k := c3
        try simp only [decide_eq_true_eq, decide_eq_false_iff_not, Int.not_lt, Int.not_le, gt_iff_lt, ge_iff_le, Bool.or_eq_true, Bool.and_eq_true, Bool.or_eq_false_iff, Bool.not_eq_true', Bool.not_eq_false', Int.toNat_natCast, bne_iff_ne, beq_iff_eq, bne_eq_false_iff_eq, beq_eq_false_iff_ne, ne_eq] at c3
        refine .skip ?_
        refine .blk ?_
        refine .code ?_
        refine Wk.rg [0, 1] rfl rfl ?_
        refine arn (((k + 1) : Nat) : Int) rfl .no (.u rfl) (.u rfl) rfl (fun _ => by omega) (fun _ => wrap_i64 (by omega) (by omega)) ?_
        refine mv rfl .no (.u rfl) ?_
        refine .nil ?_
        refine We.lpo (k + 1, upd f k 54#8, upd f2 k 92#8) ?_ ?_ ?_ ?_ ?_
        · exact (ESub.cons rfl (by first | rfl | exact evi (by omega)) (ESub.cons rfl rfl (ESub.cons rfl rfl (ESub.cons rfl rfl ESub.nil))))
        · exact (MSub.cons .here rfl (MSub.cons .here rfl (MSub.cons .here rfl MSub.nil)))
        · first | omega | (dsimp only; omega)
        · exact hGl0
        · refine ⟨?_, ?_, ?_⟩
          · (try dsimp only) <;> (first | omega | rfl | assumption | (simp; done))
          · (try dsimp only) <;> (exact outs_step1 ef (by rw [padF, ek1, if_neg (by omega)]))
          · (try dsimp only) <;> (exact outs_step1 ef2 (by rw [padF, ek1, if_neg (by omega)]))
    · have c2k := c2
      try simp only [decide_eq_true_eq, decide_eq_false_iff_not, Int.not_lt, Int.not_le, gt_iff_lt, ge_iff_le, Bool.or_eq_true, Bool.and_eq_true, Bool.or_eq_false_iff, Bool.not_eq_true', Bool.not_eq_false', Int.toNat_natCast, bne_iff_ne, beq_iff_eq, bne_eq_false_iff_eq, beq_eq_false_iff_ne, ne_eq] at c2
      refine .exit ?_
      refine .xcode ?_
      refine .xlp ?_
      refine .xblk ?_
      refine .code ?_
      refine .seq ?_
      refine Wk.drawT Fx.mix rfl ?_
      refine WoT.n2 0 1 (by kernel_rfl) ?_ ?_
      · refine lA rfl .no Fx.ag156 (.u rfl) (fun _ => RdN.own (.there .here)) (fun _ => (by first | exact (ba_len _ _).trans (ba_len _ _).symm | exact (wa_len _ _).trans (wa_len _ _).symm | exact ba_len _ _ | exact wa_len _ _ | rfl | (simp only [wa_len, ba_len, List.length_append, List.length_cons, List.length_nil]))) ?_
        refine .nil ?_
        refine WoT.n2 1 2 (by kernel_rfl) ?_ ?_
        · refine lA rfl .no Fx.ag156 (.u rfl) (fun _ => RdN.own .here) (fun _ => (by first | exact (ba_len _ _).trans (ba_len _ _).symm | exact (wa_len _ _).trans (wa_len _ _).symm | exact ba_len _ _ | exact wa_len _ _ | rfl | (simp only [wa_len, ba_len, List.length_append, List.length_cons, List.length_nil]))) ?_
          refine .nil ?_
          refine WoT.n1 2 (by kernel_rfl) ?_
          refine sw rfl (.u rfl) (.u rfl) rfl Fx.sz156 (.there .here) (by first | exact (ba_len _ _).trans (ba_len _ _).symm | exact (wa_len _ _).trans (wa_len _ _).symm | exact ba_len _ _ | exact wa_len _ _ | rfl | (simp only [wa_len, ba_len, List.length_append, List.length_cons, List.length_nil])) (by first | exact ba_one _ _ | exact wa_one _ _ | exact one_V _ | decide | exact one_app (wa_one _ _) (by simp [Value.oneCell'])) ?_
          refine .nil ?_
          refine WoT.n1 3 (by kernel_rfl) ?_
          refine sw rfl (.u rfl) (.u rfl) rfl Fx.sz156 (.there .here) (by first | exact (ba_len _ _).trans (ba_len _ _).symm | exact (wa_len _ _).trans (wa_len _ _).symm | exact ba_len _ _ | exact wa_len _ _ | rfl | (simp only [wa_len, ba_len, List.length_append, List.length_cons, List.length_nil])) (by first | exact ba_one _ _ | exact wa_one _ _ | exact one_V _ | decide | exact one_app (wa_one _ _) (by simp [Value.oneCell'])) ?_
          refine .nil ?_
          refine WoT.last (by kernel_rfl) ?_
          refine .code ?_
          refine .ret ?_
          refine We.fin0 Tryd.results86 (.cell rfl (fun w hw => run_loadVarN Fx.ag156 (RdN.own (.there .here)) ((by first | exact (ba_len _ _).trans (ba_len _ _).symm | exact (wa_len _ _).trans (wa_len _ _).symm | exact ba_len _ _ | exact wa_len _ _ | rfl | (simp only [wa_len, ba_len, List.length_append, List.length_cons, List.length_nil]))) hw) (.cell rfl (fun w hw => run_loadVarN Fx.ag156 (RdN.own .here) ((by first | exact (ba_len _ _).trans (ba_len _ _).symm | exact (wa_len _ _).trans (wa_len _ _).symm | exact ba_len _ _ | exact wa_len _ _ | rfl | (simp only [wa_len, ba_len, List.length_append, List.length_cons, List.length_nil]))) hw) .nil)) ?_
          obtain rfl : k = 64 := by omega
          exact ⟨rfl, by rw [ef, ef2, ba_congr (fun i hi => outs_eq (padF key 54#8) hi), ba_congr (fun i hi => outs_eq (padF key 92#8) hi)]; rfl⟩
        · refine sw rfl (.u rfl) (.u rfl) rfl Fx.sz156 (.there .here) (by first | exact (ba_len _ _).trans (ba_len _ _).symm | exact (wa_len _ _).trans (wa_len _ _).symm | exact ba_len _ _ | exact wa_len _ _ | rfl | (simp only [wa_len, ba_len, List.length_append, List.length_cons, List.length_nil])) (by first | exact ba_one _ _ | exact wa_one _ _ | exact one_V _ | decide | exact one_app (wa_one _ _) (by simp [Value.oneCell'])) ?_
          refine .nil ?_
          refine WoT.n1 1 (by kernel_rfl) ?_
          refine lA rfl .no Fx.ag156 (.u rfl) (fun _ => RdN.own (.there .here)) (fun _ => (by first | exact (ba_len _ _).trans (ba_len _ _).symm | exact (wa_len _ _).trans (wa_len _ _).symm | exact ba_len _ _ | exact wa_len _ _ | rfl | (simp only [wa_len, ba_len, List.length_append, List.length_cons, List.length_nil]))) ?_
          refine .nil ?_
          refine WoT.n1 3 (by kernel_rfl) ?_
          refine sw rfl (.u rfl) (.u rfl) rfl Fx.sz156 (.there .here) (by first | exact (ba_len _ _).trans (ba_len _ _).symm | exact (wa_len _ _).trans (wa_len _ _).symm | exact ba_len _ _ | exact wa_len _ _ | rfl | (simp only [wa_len, ba_len, List.length_append, List.length_cons, List.length_nil])) (by first | exact ba_one _ _ | exact wa_one _ _ | exact one_V _ | decide | exact one_app (wa_one _ _) (by simp [Value.oneCell'])) ?_
          refine .nil ?_
          refine WoT.last (by kernel_rfl) ?_
          refine .code ?_
          refine .ret ?_
          refine We.fin0 Tryd.results86 (.cell rfl (fun w hw => run_loadVarN Fx.ag156 (RdN.own (.there .here)) ((by first | exact (ba_len _ _).trans (ba_len _ _).symm | exact (wa_len _ _).trans (wa_len _ _).symm | exact ba_len _ _ | exact wa_len _ _ | rfl | (simp only [wa_len, ba_len, List.length_append, List.length_cons, List.length_nil]))) hw) (.cell rfl (fun w hw => run_loadVarN Fx.ag156 (RdN.own .here) ((by first | exact (ba_len _ _).trans (ba_len _ _).symm | exact (wa_len _ _).trans (wa_len _ _).symm | exact ba_len _ _ | exact wa_len _ _ | rfl | (simp only [wa_len, ba_len, List.length_append, List.length_cons, List.length_nil]))) hw) .nil)) ?_
          obtain rfl : k = 64 := by omega
          exact ⟨rfl, by rw [ef, ef2, ba_congr (fun i hi => outs_eq (padF key 54#8) hi), ba_congr (fun i hi => outs_eq (padF key 92#8) hi)]; rfl⟩
      · refine lA rfl .no Fx.ag156 (.u rfl) (fun _ => RdN.own .here) (fun _ => (by first | exact (ba_len _ _).trans (ba_len _ _).symm | exact (wa_len _ _).trans (wa_len _ _).symm | exact ba_len _ _ | exact wa_len _ _ | rfl | (simp only [wa_len, ba_len, List.length_append, List.length_cons, List.length_nil]))) ?_
        refine .nil ?_
        refine WoT.n1 0 (by kernel_rfl) ?_
        refine lA rfl .no Fx.ag156 (.u rfl) (fun _ => RdN.own (.there .here)) (fun _ => (by first | exact (ba_len _ _).trans (ba_len _ _).symm | exact (wa_len _ _).trans (wa_len _ _).symm | exact ba_len _ _ | exact wa_len _ _ | rfl | (simp only [wa_len, ba_len, List.length_append, List.length_cons, List.length_nil]))) ?_
        refine .nil ?_
        refine WoT.n1 2 (by kernel_rfl) ?_
        refine sw rfl (.u rfl) (.u rfl) rfl Fx.sz156 (.there .here) (by first | exact (ba_len _ _).trans (ba_len _ _).symm | exact (wa_len _ _).trans (wa_len _ _).symm | exact ba_len _ _ | exact wa_len _ _ | rfl | (simp only [wa_len, ba_len, List.length_append, List.length_cons, List.length_nil])) (by first | exact ba_one _ _ | exact wa_one _ _ | exact one_V _ | decide | exact one_app (wa_one _ _) (by simp [Value.oneCell'])) ?_
        refine .nil ?_
        refine WoT.n1 3 (by kernel_rfl) ?_
        refine sw rfl (.u rfl) (.u rfl) rfl Fx.sz156 (.there .here) (by first | exact (ba_len _ _).trans (ba_len _ _).symm | exact (wa_len _ _).trans (wa_len _ _).symm | exact ba_len _ _ | exact wa_len _ _ | rfl | (simp only [wa_len, ba_len, List.length_append, List.length_cons, List.length_nil])) (by first | exact ba_one _ _ | exact wa_one _ _ | exact one_V _ | decide | exact one_app (wa_one _ _) (by simp [Value.oneCell'])) ?_
        refine .nil ?_
        refine WoT.last (by kernel_rfl) ?_
        refine .code ?_
        refine .ret ?_
        refine We.fin0 Tryd.results86 (.cell rfl (fun w hw => run_loadVarN Fx.ag156 (RdN.own (.there .here)) ((by first | exact (ba_len _ _).trans (ba_len _ _).symm | exact (wa_len _ _).trans (wa_len _ _).symm | exact ba_len _ _ | exact wa_len _ _ | rfl | (simp only [wa_len, ba_len, List.length_append, List.length_cons, List.length_nil]))) hw) (.cell rfl (fun w hw => run_loadVarN Fx.ag156 (RdN.own .here) ((by first | exact (ba_len _ _).trans (ba_len _ _).symm | exact (wa_len _ _).trans (wa_len _ _).symm | exact ba_len _ _ | exact wa_len _ _ | rfl | (simp only [wa_len, ba_len, List.length_append, List.length_cons, List.length_nil]))) hw) .nil)) ?_
        obtain rfl : k = 64 := by omega
        exact ⟨rfl, by rw [ef, ef2, ba_congr (fun i hi => outs_eq (padF key 54#8) hi), ba_congr (fun i hi => outs_eq (padF key 92#8) hi)]; rfl⟩
  · have c1k := c1
    try simp only [decide_eq_true_eq, decide_eq_false_iff_not, Int.not_lt, Int.not_le, gt_iff_lt, ge_iff_le, Bool.or_eq_true, Bool.and_eq_true, Bool.or_eq_false_iff, Bool.not_eq_true', Bool.not_eq_false', Int.toNat_natCast, bne_iff_ne, beq_iff_eq, bne_eq_false_iff_eq, beq_eq_false_iff_ne, ne_eq] at c1
    have ek2 : keyL key = key := by unfold keyL; rw [if_neg (by omega)]
    refine .skip ?_
    refine .code ?_
    refine .seq ?_
    refine .seq ?_
    skip
    refine Wk.rg [0] rfl rfl ?_
    refine mv rfl .no (.u rfl) ?_
    refine .nil ?_
    refine .code ?_
    refine .block ?_
    refine Wk.lop (α := Nat × (Nat → Y) × (Nat → Y)) (fun gh => [(13, true, .int .i64 (gh.1 : Int))]) (fun gh => [.blk b3 (cl (ba 64 gh.2.2) 156), .blk b2 (cl (ba 64 gh.2.1) 156)])
      (fun gh Gl => (gh.1 ≤ 64) ∧ (gh.2.1 = outs (padF key 54#8) gh.1) ∧ (gh.2.2 = outs (padF key 92#8) gh.1)) (fun gh => 64 - gh.1) (0, fun _ => 0#8, fun _ => 0#8) [(0, true, _), (2, true, _), (3, true, _)] []
      (ESub.cons rfl (by first | rfl | exact evi (by omega)) (ESub.cons rfl rfl (ESub.cons rfl rfl (ESub.cons rfl rfl ESub.nil))))
      (MSub.cons .here rfl (MSub.cons .here rfl MSub.nil)) ?_ ?_
    · refine ⟨?_, ?_, ?_⟩
      · (try dsimp only) <;> (first | omega | rfl | assumption | (simp; done))
      · (try dsimp only) <;> (first | omega | rfl | assumption | (simp; done))
      · (try dsimp only) <;> (first | omega | rfl | assumption | (simp; done))
    intro gh N1 Gl1 hN1 hGl1 hF1
    obtain ⟨k, f, f2⟩ := gh; dsimp only at hF1 hN1 ⊢
    obtain ⟨hk, ef, ef2⟩ := hF1
    have hs := hs.mono hGl1
    have hK := hK.mono hGl1
    refine .seq ?_
    refine Wk.rg [0] rfl rfl ?_
    refine cp rfl .no (.u rfl) (.u rfl) rfl ?_
    refine .nil ?_
    refine .code ?_
    refine .seq ?_
    refine .cond rfl (fun c4 => ?_) (fun c4 => ?_)
    · have c4k := c4
      try simp only [decide_eq_true_eq, decide_eq_false_iff_not, Int.not_lt, Int.not_le, gt_iff_lt, ge_iff_le, Bool.or_eq_true, Bool.and_eq_true, Bool.or_eq_false_iff, Bool.not_eq_true', Bool.not_eq_false', Int.toNat_natCast, bne_iff_ne, beq_iff_eq, bne_eq_false_iff_eq, beq_eq_false_iff_ne, ne_eq] at c4
      refine .skip ?_
      refine .code ?_
      refine .seq ?_
      refine .block ?_
      refine .seq ?_
      refine Wk.rg [0, 1] rfl rfl ?_
      refine mv rfl .no (.u rfl) ?_
      refine asg rfl .no (.u rfl) ?_
      refine .nil ?_
      refine .code ?_
      refine .seq ?_
      refine Wk.rg [0, 1, 2, 3, 4, 5] rfl rfl ?_
      refine mv rfl .no (.u rfl) ?_
      refine mv rfl .no (.u rfl) ?_
      refine iA rfl .no Fx.ar156 (.u rfl) (.u rfl) (fun _ => by omega) (fun _ => by omega) ?_
      refine s1 rfl (.u rfl) (.u rfl) rfl Fx.sz5 (.there .here) (by first | decide | (simp only [wa_len, ba_len, List.length_append, List.length_cons, List.length_nil]; omega)) (by first | exact ba_set1 (z := 54#8) (k) (by omega) | exact wa_set1 (z := 54#32) (k) (by omega) | rfl) ?_
      refine iA rfl .no Fx.ar156 (.u rfl) (.u rfl) (fun _ => by omega) (fun _ => by omega) ?_
      refine s1 rfl (.u rfl) (.u rfl) rfl Fx.sz5 (.there .here) (by first | decide | (simp only [wa_len, ba_len, List.length_append, List.length_cons, List.length_nil]; omega)) (by first | exact ba_set1 (z := 92#8) (k) (by omega) | exact wa_set1 (z := 92#32) (k) (by omega) | rfl) ?_
      refine .nil ?_
      refine .code ?_
      refine .seq ?_
      refine Wk.rg [0, 1, 2, 3] rfl rfl ?_
      refine mv rfl .no (.u rfl) ?_
      refine mv rfl .no (.u rfl) ?_
      refine ln rfl .no Fx.sn36 (.u rfl) ?_
      refine cp rfl .no (.u rfl) (.u rfl) rfl ?_
      refine .nil ?_
      refine .code ?_
      refine .cond rfl (fun c5 => ?_) (fun c5 => ?_)
      · have c5k := c5
        try simp only [decide_eq_true_eq, decide_eq_false_iff_not, Int.not_lt, Int.not_le, gt_iff_lt, ge_iff_le, Bool.or_eq_true, Bool.and_eq_true, Bool.or_eq_false_iff, Bool.not_eq_true', Bool.not_eq_false', Int.toNat_natCast, bne_iff_ne, beq_iff_eq, bne_eq_false_iff_eq, beq_eq_false_iff_ne, ne_eq] at c5
        refine .seq ?_
        refine Wk.draw (mc := ⟨false, false⟩) [0, 1, 2, 3, 4, 5, 6, 7, 8, 9] Fx.mix (by kernel_rfl) ?_
        refine mv rfl .no (.u rfl) ?_
        refine iA rfl .no Fx.ar156 (.u rfl) (.u rfl) (fun _ => by omega) (fun _ => by omega) ?_
        refine ld rfl .no Fx.ag5 (.u rfl) (fun _ => Rd.own (.there .here) (by first | exact wa_at1 (k) (by omega) (by omega) | exact ba_at1 (k) (by omega) (by omega) | exact wap_at1 (k) (by omega) (by omega) | rfl)) ?_
        refine mv rfl .no (.u rfl) ?_
        refine mv rfl .no (.u rfl) ?_
        refine ih rfl .no Fx.se36 (.u rfl) (.u rfl) (fun _ => by omega) (fun _ => by omega) (fun _ => hs.nn (k := k) (by omega)) ?_
        refine ld rfl .no Fx.ag5 (.u rfl) (fun _ => (hs.yat (k) (by omega) (by omega)).rd) ?_
        refine bw (k := .u8) rfl .no rfl (.u rfl) (.u rfl) rfl ?_
        refine iA rfl .no Fx.ar156 (.u rfl) (.u rfl) (fun _ => by omega) (fun _ => by omega) ?_
        refine s1 rfl (.u rfl) (.u rfl) rfl Fx.sz5 (.there .here) (by first | decide | (simp only [wa_len, ba_len, List.length_append, List.length_cons, List.length_nil]; omega)) (by first | exact wa_set1 (k) (by omega) | exact ba_set1 (k) (by omega) | exact wap_set1 (k) (by omega) (by omega) | rfl) ?_
        refine .nil ?_
        refine .code ?_
        refine Wk.draw (mc := ⟨false, false⟩) [0, 1, 2, 3, 4, 5, 6, 7, 8, 9] Fx.mix (by kernel_rfl) ?_
        refine mv rfl .no (.u rfl) ?_
        refine iA rfl .no Fx.ar156 (.u rfl) (.u rfl) (fun _ => by omega) (fun _ => by omega) ?_
        refine ld rfl .no Fx.ag5 (.u rfl) (fun _ => Rd.own (.there .here) (by first | exact wa_at1 (k) (by omega) (by omega) | exact ba_at1 (k) (by omega) (by omega) | exact wap_at1 (k) (by omega) (by omega) | rfl)) ?_
        refine mv rfl .no (.u rfl) ?_
        refine mv rfl .no (.u rfl) ?_
        refine ih rfl .no Fx.se36 (.u rfl) (.u rfl) (fun _ => by omega) (fun _ => by omega) (fun _ => hs.nn (k := k) (by omega)) ?_
        refine ld rfl .no Fx.ag5 (.u rfl) (fun _ => (hs.yat (k) (by omega) (by omega)).rd) ?_
        refine bw (k := .u8) rfl .no rfl (.u rfl) (.u rfl) rfl ?_
        refine iA rfl .no Fx.ar156 (.u rfl) (.u rfl) (fun _ => by omega) (fun _ => by omega) ?_
        refine s1 rfl (.u rfl) (.u rfl) rfl Fx.sz5 (.there .here) (by first | decide | (simp only [wa_len, ba_len, List.length_append, List.length_cons, List.length_nil]; omega)) (by first | exact wa_set1 (k) (by omega) | exact ba_set1 (k) (by omega) | exact wap_set1 (k) (by omega) (by omega) | rfl) ?_
        refine .nil ?_
        refine .blk ?_
        refine .code ?_
        refine Wk.rg [0, 1] rfl rfl ?_
        refine arn (((k + 1) : Nat) : Int) rfl .no (.u rfl) (.u rfl) rfl (fun _ => by omega) (fun _ => wrap_i64 (by omega) (by omega)) ?_
        refine mv rfl .no (.u rfl) ?_
        refine .nil ?_
        refine We.lpo (k + 1, upd (upd f k 54#8) k (upd f k 54#8 k ^^^ key.getD k 0), upd (upd f2 k 92#8) k (upd f2 k 92#8 k ^^^ key.getD k 0)) ?_ ?_ ?_ ?_ ?_
        · exact (ESub.cons rfl (by first | rfl | exact evi (by omega)) (ESub.cons rfl rfl (ESub.cons rfl rfl (ESub.cons rfl rfl ESub.nil))))
        · exact (MSub.cons .here rfl (MSub.cons .here rfl MSub.nil))
        · first | omega | (dsimp only; omega)
        · exact hGl1
        · refine ⟨?_, ?_, ?_⟩
          · (try dsimp only) <;> (first | omega | rfl | assumption | (simp; done))
          · (try dsimp only) <;> (exact outs_step2 ef (by rw [upd_at, padF, ek2, if_pos (by omega)]))
          · (try dsimp only) <;> (exact outs_step2 ef2 (by rw [upd_at, padF, ek2, if_pos (by omega)]))
      · have c5k := c5
        try simp only [decide_eq_true_eq, decide_eq_false_iff_not, Int.not_lt, Int.not_le, gt_iff_lt, ge_iff_le, Bool.or_eq_true, Bool.and_eq_true, Bool.or_eq_false_iff, Bool.not_eq_true', Bool.not_eq_false', Int.toNat_natCast, bne_iff_ne, beq_iff_eq, bne_eq_false_iff_eq, beq_eq_false_iff_ne, ne_eq] at c5
        refine .skip ?_
        refine .blk ?_
        refine .code ?_
        refine Wk.rg [0, 1] rfl rfl ?_
        refine arn (((k + 1) : Nat) : Int) rfl .no (.u rfl) (.u rfl) rfl (fun _ => by omega) (fun _ => wrap_i64 (by omega) (by omega)) ?_
        refine mv rfl .no (.u rfl) ?_
        refine .nil ?_
        refine We.lpo (k + 1, upd f k 54#8, upd f2 k 92#8) ?_ ?_ ?_ ?_ ?_
        · exact (ESub.cons rfl (by first | rfl | exact evi (by omega)) (ESub.cons rfl rfl (ESub.cons rfl rfl (ESub.cons rfl rfl ESub.nil))))
        · exact (MSub.cons .here rfl (MSub.cons .here rfl MSub.nil))
        · first | omega | (dsimp only; omega)
        · exact hGl1
        · refine ⟨?_, ?_, ?_⟩
          · (try dsimp only) <;> (first | omega | rfl | assumption | (simp; done))
          · (try dsimp only) <;> (exact outs_step1 ef (by rw [padF, ek2, if_neg (by omega)]))
          · (try dsimp only) <;> (exact outs_step1 ef2 (by rw [padF, ek2, if_neg (by omega)]))
    · have c4k := c4
      try simp only [decide_eq_true_eq, decide_eq_false_iff_not, Int.not_lt, Int.not_le, gt_iff_lt, ge_iff_le, Bool.or_eq_true, Bool.and_eq_true, Bool.or_eq_false_iff, Bool.not_eq_true', Bool.not_eq_false', Int.toNat_natCast, bne_iff_ne, beq_iff_eq, bne_eq_false_iff_eq, beq_eq_false_iff_ne, ne_eq] at c4
      refine .exit ?_
      refine .xcode ?_
      refine .xlp ?_
      refine .xblk ?_
      refine .code ?_
      refine .seq ?_
      refine Wk.drawT Fx.mix rfl ?_
      refine WoT.n2 0 1 (by kernel_rfl) ?_ ?_
      · refine lA rfl .no Fx.ag156 (.u rfl) (fun _ => RdN.own (.there .here)) (fun _ => (by first | exact (ba_len _ _).trans (ba_len _ _).symm | exact (wa_len _ _).trans (wa_len _ _).symm | exact ba_len _ _ | exact wa_len _ _ | rfl | (simp only [wa_len, ba_len, List.length_append, List.length_cons, List.length_nil]))) ?_
        refine .nil ?_
        refine WoT.n2 1 2 (by kernel_rfl) ?_ ?_
        · refine lA rfl .no Fx.ag156 (.u rfl) (fun _ => RdN.own .here) (fun _ => (by first | exact (ba_len _ _).trans (ba_len _ _).symm | exact (wa_len _ _).trans (wa_len _ _).symm | exact ba_len _ _ | exact wa_len _ _ | rfl | (simp only [wa_len, ba_len, List.length_append, List.length_cons, List.length_nil]))) ?_
          refine .nil ?_
          refine WoT.n1 2 (by kernel_rfl) ?_
          refine sw rfl (.u rfl) (.u rfl) rfl Fx.sz156 (.there .here) (by first | exact (ba_len _ _).trans (ba_len _ _).symm | exact (wa_len _ _).trans (wa_len _ _).symm | exact ba_len _ _ | exact wa_len _ _ | rfl | (simp only [wa_len, ba_len, List.length_append, List.length_cons, List.length_nil])) (by first | exact ba_one _ _ | exact wa_one _ _ | exact one_V _ | decide | exact one_app (wa_one _ _) (by simp [Value.oneCell'])) ?_
          refine .nil ?_
          refine WoT.n1 3 (by kernel_rfl) ?_
          refine sw rfl (.u rfl) (.u rfl) rfl Fx.sz156 (.there .here) (by first | exact (ba_len _ _).trans (ba_len _ _).symm | exact (wa_len _ _).trans (wa_len _ _).symm | exact ba_len _ _ | exact wa_len _ _ | rfl | (simp only [wa_len, ba_len, List.length_append, List.length_cons, List.length_nil])) (by first | exact ba_one _ _ | exact wa_one _ _ | exact one_V _ | decide | exact one_app (wa_one _ _) (by simp [Value.oneCell'])) ?_
          refine .nil ?_
          refine WoT.last (by kernel_rfl) ?_
          refine .code ?_
          refine .ret ?_
          refine We.fin0 Tryd.results86 (.cell rfl (fun w hw => run_loadVarN Fx.ag156 (RdN.own (.there .here)) ((by first | exact (ba_len _ _).trans (ba_len _ _).symm | exact (wa_len _ _).trans (wa_len _ _).symm | exact ba_len _ _ | exact wa_len _ _ | rfl | (simp only [wa_len, ba_len, List.length_append, List.length_cons, List.length_nil]))) hw) (.cell rfl (fun w hw => run_loadVarN Fx.ag156 (RdN.own .here) ((by first | exact (ba_len _ _).trans (ba_len _ _).symm | exact (wa_len _ _).trans (wa_len _ _).symm | exact ba_len _ _ | exact wa_len _ _ | rfl | (simp only [wa_len, ba_len, List.length_append, List.length_cons, List.length_nil]))) hw) .nil)) ?_
          obtain rfl : k = 64 := by omega
          exact ⟨rfl, by rw [ef, ef2, ba_congr (fun i hi => outs_eq (padF key 54#8) hi), ba_congr (fun i hi => outs_eq (padF key 92#8) hi)]; rfl⟩
        · refine sw rfl (.u rfl) (.u rfl) rfl Fx.sz156 (.there .here) (by first | exact (ba_len _ _).trans (ba_len _ _).symm | exact (wa_len _ _).trans (wa_len _ _).symm | exact ba_len _ _ | exact wa_len _ _ | rfl | (simp only [wa_len, ba_len, List.length_append, List.length_cons, List.length_nil])) (by first | exact ba_one _ _ | exact wa_one _ _ | exact one_V _ | decide | exact one_app (wa_one _ _) (by simp [Value.oneCell'])) ?_
          refine .nil ?_
          refine WoT.n1 1 (by kernel_rfl) ?_
          refine lA rfl .no Fx.ag156 (.u rfl) (fun _ => RdN.own (.there .here)) (fun _ => (by first | exact (ba_len _ _).trans (ba_len _ _).symm | exact (wa_len _ _).trans (wa_len _ _).symm | exact ba_len _ _ | exact wa_len _ _ | rfl | (simp only [wa_len, ba_len, List.length_append, List.length_cons, List.length_nil]))) ?_
          refine .nil ?_
          refine WoT.n1 3 (by kernel_rfl) ?_
          refine sw rfl (.u rfl) (.u rfl) rfl Fx.sz156 (.there .here) (by first | exact (ba_len _ _).trans (ba_len _ _).symm | exact (wa_len _ _).trans (wa_len _ _).symm | exact ba_len _ _ | exact wa_len _ _ | rfl | (simp only [wa_len, ba_len, List.length_append, List.length_cons, List.length_nil])) (by first | exact ba_one _ _ | exact wa_one _ _ | exact one_V _ | decide | exact one_app (wa_one _ _) (by simp [Value.oneCell'])) ?_
          refine .nil ?_
          refine WoT.last (by kernel_rfl) ?_
          refine .code ?_
          refine .ret ?_
          refine We.fin0 Tryd.results86 (.cell rfl (fun w hw => run_loadVarN Fx.ag156 (RdN.own (.there .here)) ((by first | exact (ba_len _ _).trans (ba_len _ _).symm | exact (wa_len _ _).trans (wa_len _ _).symm | exact ba_len _ _ | exact wa_len _ _ | rfl | (simp only [wa_len, ba_len, List.length_append, List.length_cons, List.length_nil]))) hw) (.cell rfl (fun w hw => run_loadVarN Fx.ag156 (RdN.own .here) ((by first | exact (ba_len _ _).trans (ba_len _ _).symm | exact (wa_len _ _).trans (wa_len _ _).symm | exact ba_len _ _ | exact wa_len _ _ | rfl | (simp only [wa_len, ba_len, List.length_append, List.length_cons, List.length_nil]))) hw) .nil)) ?_
          obtain rfl : k = 64 := by omega
          exact ⟨rfl, by rw [ef, ef2, ba_congr (fun i hi => outs_eq (padF key 54#8) hi), ba_congr (fun i hi => outs_eq (padF key 92#8) hi)]; rfl⟩
      · refine lA rfl .no Fx.ag156 (.u rfl) (fun _ => RdN.own .here) (fun _ => (by first | exact (ba_len _ _).trans (ba_len _ _).symm | exact (wa_len _ _).trans (wa_len _ _).symm | exact ba_len _ _ | exact wa_len _ _ | rfl | (simp only [wa_len, ba_len, List.length_append, List.length_cons, List.length_nil]))) ?_
        refine .nil ?_
        refine WoT.n1 0 (by kernel_rfl) ?_
        refine lA rfl .no Fx.ag156 (.u rfl) (fun _ => RdN.own (.there .here)) (fun _ => (by first | exact (ba_len _ _).trans (ba_len _ _).symm | exact (wa_len _ _).trans (wa_len _ _).symm | exact ba_len _ _ | exact wa_len _ _ | rfl | (simp only [wa_len, ba_len, List.length_append, List.length_cons, List.length_nil]))) ?_
        refine .nil ?_
        refine WoT.n1 2 (by kernel_rfl) ?_
        refine sw rfl (.u rfl) (.u rfl) rfl Fx.sz156 (.there .here) (by first | exact (ba_len _ _).trans (ba_len _ _).symm | exact (wa_len _ _).trans (wa_len _ _).symm | exact ba_len _ _ | exact wa_len _ _ | rfl | (simp only [wa_len, ba_len, List.length_append, List.length_cons, List.length_nil])) (by first | exact ba_one _ _ | exact wa_one _ _ | exact one_V _ | decide | exact one_app (wa_one _ _) (by simp [Value.oneCell'])) ?_
        refine .nil ?_
        refine WoT.n1 3 (by kernel_rfl) ?_
        refine sw rfl (.u rfl) (.u rfl) rfl Fx.sz156 (.there .here) (by first | exact (ba_len _ _).trans (ba_len _ _).symm | exact (wa_len _ _).trans (wa_len _ _).symm | exact ba_len _ _ | exact wa_len _ _ | rfl | (simp only [wa_len, ba_len, List.length_append, List.length_cons, List.length_nil])) (by first | exact ba_one _ _ | exact wa_one _ _ | exact one_V _ | decide | exact one_app (wa_one _ _) (by simp [Value.oneCell'])) ?_
        refine .nil ?_
        refine WoT.last (by kernel_rfl) ?_
        refine .code ?_
        refine .ret ?_
        refine We.fin0 Tryd.results86 (.cell rfl (fun w hw => run_loadVarN Fx.ag156 (RdN.own (.there .here)) ((by first | exact (ba_len _ _).trans (ba_len _ _).symm | exact (wa_len _ _).trans (wa_len _ _).symm | exact ba_len _ _ | exact wa_len _ _ | rfl | (simp only [wa_len, ba_len, List.length_append, List.length_cons, List.length_nil]))) hw) (.cell rfl (fun w hw => run_loadVarN Fx.ag156 (RdN.own .here) ((by first | exact (ba_len _ _).trans (ba_len _ _).symm | exact (wa_len _ _).trans (wa_len _ _).symm | exact ba_len _ _ | exact wa_len _ _ | rfl | (simp only [wa_len, ba_len, List.length_append, List.length_cons, List.length_nil]))) hw) .nil)) ?_
        obtain rfl : k = 64 := by omega
        exact ⟨rfl, by rw [ef, ef2, ba_congr (fun i hi => outs_eq (padF key 54#8) hi), ba_congr (fun i hi => outs_eq (padF key 92#8) hi)]; rfl⟩

end Go.Proofs.YtbdnclpopappeaaDoor

namespace Go.Proofs.YtbdnclpopappeaaDoor
set_option linter.unusedSimpArgs false
set_option linter.unusedVariables false
open Go.Tan Go.RowKit

namespace Fx
theorem go86 : goFn Tryd.prog 86 = true := by kernel_rfl
theorem go87 : goFn Tryd.prog 87 = true := by kernel_rfl
theorem go88 : goFn Tryd.prog 88 = true := by kernel_rfl
theorem zq142 : zrL Tryd.prog 142 = some (ba 16 (fun _ => 0#8)) := by kernel_rfl
theorem fo70_1 : fOff Tryd.prog 70 1 = some 32 := by kernel_rfl
theorem ar113 : arE Tryd.prog 113 = some (12, 5, 1) := by kernel_rfl
theorem go32 : goFn Tryd.prog 32 = true := by kernel_rfl
theorem go80 : goFn Tryd.prog 80 = true := by kernel_rfl
theorem ar142 : arE Tryd.prog 142 = some (16, 5, 1) := by kernel_rfl
theorem ag142 : aggN Tryd.prog 142 = some (some 16) := by kernel_rfl
theorem sz142 : szT Tryd.prog 142 = some 16 := by kernel_rfl
theorem fo70_0 : fOff Tryd.prog 70 0 = some 0 := by kernel_rfl
theorem ag113 : aggN Tryd.prog 113 = some (some 12) := by kernel_rfl
theorem go71 : goFn Tryd.prog 71 = true := by kernel_rfl
theorem ag70 : aggN Tryd.prog 70 = some (some 64) := by kernel_rfl
theorem go72 : goFn Tryd.prog 72 = true := by kernel_rfl
theorem baT142 : baT Tryd.prog 142 16 = true := by kernel_rfl
end Fx
theorem macSum_ok (key : List Y) (hk : Sh) (ps : List (Sh × List Y)) (h : Sh) (G : PM) (hsk : SlR G 1 encY hk key) (hs : SlP G h ps) (hK : RdNP G 0 0 (wa 64 kW)) (hlk : key.length ≤ 140737488351232) (hl : (catL ps).length ≤ 1000000000000000) (hn : ps.length ≤ 1000) : Ct Tryd.prog 80 ([hk.val key.length, h.val ps.length] : List Value).toArray G [] (fun _ μ' u => μ' = [] ∧ u = .agg (ba 32 (macL key (catL ps))).toArray) := by
  refine Ct.of Tryd.func80 rfl Tryd.ntmps80 rfl fun w0 hs0 => ?_
  refine .seq ?_
  refine Wk.rg [0] rfl rfl ?_
  refine al rfl Fx.zq23 ?_; intro b4
  refine .nil ?_
  refine .code ?_
  refine .seq ?_
  refine Wk.rg [0, 1, 2, 3, 4, 5, 6, 7, 8] rfl rfl ?_
  refine mv rfl .no (.u rfl) ?_
  refine kv rfl .no Fx.go86 (Eva.cons (.u rfl) Eva.nil) (fun _ => pads_ok key hk _ hsk hK hlk) ?_
  refine mv rfl .no (.u rfl) ?_
  refine ex rfl .no (.u rfl) rfl ?_
  refine ex rfl .no (.u rfl) rfl ?_
  refine al rfl Fx.zq156 ?_; intro b5
  refine al rfl Fx.zq156 ?_; intro b6
  refine sw rfl (.u rfl) (.u rfl) rfl Fx.sz156 (.there .here) (by first | exact (ba_len _ _).trans (ba_len _ _).symm | exact (wa_len _ _).trans (wa_len _ _).symm | exact ba_len _ _ | exact wa_len _ _ | rfl | (simp only [wa_len, ba_len, List.length_append, List.length_cons, List.length_nil])) (by first | exact ba_one _ _ | exact wa_one _ _ | exact one_V _ | decide | exact one_app (wa_one _ _) (by simp [Value.oneCell'])) ?_
  refine sw rfl (.u rfl) (.u rfl) rfl Fx.sz156 (.there .here) (by first | exact (ba_len _ _).trans (ba_len _ _).symm | exact (wa_len _ _).trans (wa_len _ _).symm | exact ba_len _ _ | exact wa_len _ _ | rfl | (simp only [wa_len, ba_len, List.length_append, List.length_cons, List.length_nil])) (by first | exact ba_one _ _ | exact wa_one _ _ | exact one_V _ | decide | exact one_app (wa_one _ _) (by simp [Value.oneCell'])) ?_
  refine .nil ?_
  refine .code ?_
  refine .seq ?_
  refine wk_fz (.there .here) (by intro b hb; cases hb) ?_; intro Gfb5 hleb5 hbb5
  have hsk := hsk.mono hleb5
  have hs := hs.mono hleb5
  have hK := hK.mono hleb5
  refine wk_fz .here (by intro b hb; cases hb) ?_; intro Gfb6 hleb6 hbb6
  have hsk := hsk.mono hleb6
  have hs := hs.mono hleb6
  have hK := hK.mono hleb6
  have hbb5 := hbb5.mono hleb6
  refine Wk.rg [0, 1] rfl rfl ?_
  refine kc rfl Fx.go87 Eva.nil (New_ok _) ?_
  rintro _ G16 μ16 hG16 ⟨b16, rfl, rfl⟩
  have hsk := hsk.mono hG16
  have hs := hs.mono hG16
  have hK := hK.mono hG16
  have hbb5 := hbb5.mono hG16
  have hbb6 := hbb6.mono hG16
  refine asg rfl .no (.u rfl) ?_
  refine .nil ?_
  refine .code ?_
  refine .seq ?_
  refine Wk.rg [0, 1, 2] rfl rfl ?_
  refine mv rfl .no (.u rfl) ?_
  refine kA rfl .no Fx.ar156 (.u rfl) hbb5 (by first | exact ba_all | exact app_l | exact app_r) ?_; intro h18 L18 eL18 lL18 hs18
  refine ka rfl (.inr rfl) Fx.go88 (Eva.cons (.u rfl) (Eva.cons (.u rfl) Eva.nil)) (mtk2 .here .here) (Write_ok [] L18 _ _ _ _ hs18 hK (by simp; omega)) ?_
  rintro _ G19 μ19 hG19 ⟨vq0, rfl, rfl⟩
  have hsk := hsk.mono hG19
  have hs := hs.mono hG19
  have hK := hK.mono hG19
  have hbb5 := hbb5.mono hG19
  have hbb6 := hbb6.mono hG19
  have hs18 := hs18.mono hG19
  refine .nil ?_
  refine .code ?_
  refine .seq ?_
  refine .seq ?_
  refine Wk.rg [0, 1, 2] rfl rfl ?_
  refine mv rfl .no (.u rfl) ?_
  refine ln rfl .no Fx.sn56 (.u rfl) ?_
  refine mv rfl .no (.u rfl) ?_
  refine .nil ?_
  refine .code ?_
  refine .block ?_
  refine Wk.lop (α := Nat × Value) (fun gh => [(22, true, .int .i64 (gh.1 : Int))]) (fun gh => [.blk b16 (cl (stC (L18 ++ catL (ps.take gh.1)) gh.2) 132), rB gh.2 5 (restL (L18 ++ catL (ps.take gh.1)))])
    (fun gh Gl => (gh.1 ≤ ps.length)) (fun gh => ps.length - gh.1) (0, vq0) [(4, true, _), (6, true, _), (7, true, _), (20, true, _), (21, true, _)] [_]
    (ESub.cons rfl (by first | rfl | exact evi (by omega)) (ESub.cons rfl rfl (ESub.cons rfl rfl (ESub.cons rfl rfl (ESub.cons rfl rfl (ESub.cons rfl rfl ESub.nil))))))
    (MSub.cons .here (by simp [catL]) (MSub.cons .here (by simp [catL]) (MSub.cons .here rfl MSub.nil))) ?_ ?_
  · (try dsimp only) <;> (first | omega | rfl | assumption | (simp; done))
  intro gh N0 Gl0 hN0 hGl0 hF0
  obtain ⟨k, vq⟩ := gh; dsimp only at hF0 hN0 ⊢
  have hk := hF0
  have hsk := hsk.mono hGl0
  have hs := hs.mono hGl0
  have hK := hK.mono hGl0
  have hbb5 := hbb5.mono hGl0
  have hbb6 := hbb6.mono hGl0
  have hs18 := hs18.mono hGl0
  refine .seq ?_
  refine Wk.rg [0] rfl rfl ?_
  refine cp rfl .no (.u rfl) (.u rfl) rfl ?_
  refine .nil ?_
  refine .code ?_
  refine .seq ?_
  refine .cond rfl (fun c1 => ?_) (fun c1 => ?_)
  · have c1k := c1
    try simp only [decide_eq_true_eq, decide_eq_false_iff_not, Int.not_lt, Int.not_le, gt_iff_lt, ge_iff_le, Bool.or_eq_true, Bool.and_eq_true, Bool.or_eq_false_iff, Bool.not_eq_true', Bool.not_eq_false', Int.toNat_natCast, bne_iff_ne, beq_iff_eq, bne_eq_false_iff_eq, beq_eq_false_iff_ne, ne_eq] at c1
    refine .skip ?_
    refine .code ?_
    refine .seq ?_
    refine .block ?_
    refine .seq ?_
    refine Wk.rg [0, 1, 2] rfl rfl ?_
    refine ih rfl .no Fx.se56 (.u rfl) (.u rfl) (fun _ => by omega) (fun _ => by omega) (fun _ => hs.sl.nn (k := k) (by omega)) ?_
    obtain ⟨p25, ep25⟩ := getx (k := k) (xs := ps) (by omega)
    have hq25 := hs.get ep25
    refine ld rfl .no Fx.ag36 (.u rfl) (fun _ => (hs.at (k) (by omega) ep25).rd) ?_
    refine asg rfl .no (.u rfl) ?_
    refine .nil ?_
    refine .code ?_
    refine Wk.rg [0, 1, 2] rfl rfl ?_
    refine mv rfl .no (.u rfl) ?_
    refine mv rfl .no (.u rfl) ?_
    refine ka rfl (.inr rfl) Fx.go88 (Eva.cons (.u rfl) (Eva.cons (.u rfl) Eva.nil)) (mtk2 .here .here) (Write_ok (L18 ++ catL (ps.take k)) p25.2 _ _ _ _ hq25 hK (by have := cat_len ep25; rw [List.length_append]; omega)) ?_
    rintro _ G28 μ28 hG28 ⟨vq', rfl, rfl⟩
    have hsk := hsk.mono hG28
    have hs := hs.mono hG28
    have hK := hK.mono hG28
    have hbb5 := hbb5.mono hG28
    have hbb6 := hbb6.mono hG28
    have hs18 := hs18.mono hG28
    have hq25 := hq25.mono hG28
    refine .nil ?_
    refine .blk ?_
    refine .code ?_
    refine Wk.rg [0, 1] rfl rfl ?_
    refine arn (((k + 1) : Nat) : Int) rfl .no (.u rfl) (.u rfl) rfl (fun _ => by omega) (fun _ => wrap_i64 (by omega) (by omega)) ?_
    refine mv rfl .no (.u rfl) ?_
    refine .nil ?_
    refine We.lpo (k + 1, vq') ?_ ?_ ?_ ?_ ?_
    · exact (ESub.cons rfl (by first | rfl | exact evi (by omega)) (ESub.cons rfl rfl (ESub.cons rfl rfl (ESub.cons rfl rfl (ESub.cons rfl rfl (ESub.cons rfl rfl ESub.nil))))))
    · exact (MSub.cons .here (by rw [cat_take ep25, List.append_assoc]) (MSub.cons .here (by rw [cat_take ep25, List.append_assoc]) (MSub.cons .here rfl MSub.nil)))
    · first | omega | (dsimp only; omega)
    · exact (hGl0).trans hG28
    · (try dsimp only) <;> (first | omega | rfl | assumption | (simp; done))
  · have c1k := c1
    try simp only [decide_eq_true_eq, decide_eq_false_iff_not, Int.not_lt, Int.not_le, gt_iff_lt, ge_iff_le, Bool.or_eq_true, Bool.and_eq_true, Bool.or_eq_false_iff, Bool.not_eq_true', Bool.not_eq_false', Int.toNat_natCast, bne_iff_ne, beq_iff_eq, bne_eq_false_iff_eq, beq_eq_false_iff_ne, ne_eq] at c1
    refine .exit ?_
    refine .xcode ?_
    refine .xlp ?_
    refine .xblk ?_
    refine .code ?_
    refine .seq ?_
    obtain rfl : k = ps.length := by omega
    rw [List.take_length]
    refine Wk.rg [0, 1, 2, 3] rfl rfl ?_
    refine mv rfl .no (.u rfl) ?_
    refine ka rfl (.inr rfl) Fx.go66 (Eva.cons (.u rfl) Eva.nil) (mtk2 .here .here) (StSum_ok (L18 ++ catL ps) _ _ _ hK (by rw [List.length_append]; omega)) ?_
    rintro _ G31 μ31 hG31 ⟨rfl, rfl⟩
    have hsk := hsk.mono hG31
    have hs := hs.mono hG31
    have hK := hK.mono hG31
    have hbb5 := hbb5.mono hG31
    have hbb6 := hbb6.mono hG31
    have hs18 := hs18.mono hG31
    refine al rfl Fx.zq23 ?_; intro b10
    refine sw rfl (.u rfl) (.u rfl) rfl Fx.sz23 .here (by first | exact (ba_len _ _).trans (ba_len _ _).symm | exact (wa_len _ _).trans (wa_len _ _).symm | exact ba_len _ _ | exact wa_len _ _ | rfl | (simp only [wa_len, ba_len, List.length_append, List.length_cons, List.length_nil])) (by first | exact ba_one _ _ | exact wa_one _ _ | exact one_V _ | decide | exact one_app (wa_one _ _) (by simp [Value.oneCell'])) ?_
    refine .nil ?_
    refine .code ?_
    refine .seq ?_
    refine wk_fz .here (by intro b hb; cases hb) ?_; intro Gfb10 hleb10 hbb10
    have hsk := hsk.mono hleb10
    have hs := hs.mono hleb10
    have hK := hK.mono hleb10
    have hbb5 := hbb5.mono hleb10
    have hbb6 := hbb6.mono hleb10
    have hs18 := hs18.mono hleb10
    refine Wk.draw (mc := ⟨false, false⟩) [0, 1, 2, 3, 4] Fx.mix (by kernel_rfl) ?_
    refine kA rfl .no Fx.ar156 (.u rfl) hbb6 (by first | exact ba_all | exact app_l | exact app_r) ?_; intro h32 L32 eL32 lL32 hs32
    refine kA rfl .no Fx.ar23 (.u rfl) hbb10 (by first | exact ba_all | exact app_l | exact app_r) ?_; intro h33 L33 eL33 lL33 hs33
    refine Go.Tan.bN rfl Fx.se56 Fx.zv36 (Evp.cons (.u rfl) (Evp.cons (.u rfl) Evp.nil)) rfl (by decide) (by simp [Value.oneCell', Sh.val]) ?_; intro b34
    refine kp rfl .no Fx.go45 (Eva.cons (.u rfl) Eva.nil) (Gp.add .here Gp.nil) (fun _ hle hq => sum2_ok hle hs32 hs33 hK (by omega)) ?_
    refine sw rfl (.u rfl) (.u rfl) rfl Fx.sz23 (.there (.there (.there .here))) (by first | exact (ba_len _ _).trans (ba_len _ _).symm | exact (wa_len _ _).trans (wa_len _ _).symm | exact ba_len _ _ | exact wa_len _ _ | rfl | (simp only [wa_len, ba_len, List.length_append, List.length_cons, List.length_nil])) (by first | exact ba_one _ _ | exact wa_one _ _ | exact one_V _ | decide | exact one_app (wa_one _ _) (by simp [Value.oneCell'])) ?_
    refine .nil ?_
    refine .code ?_
    refine .ret ?_
    refine We.fin0 Tryd.results80 (.cell rfl (fun w hw => run_loadVarN Fx.ag23 (RdN.own .here) ((by first | exact (ba_len _ _).trans (ba_len _ _).symm | exact (wa_len _ _).trans (wa_len _ _).symm | exact ba_len _ _ | exact wa_len _ _ | rfl | (simp only [wa_len, ba_len, List.length_append, List.length_cons, List.length_nil]))) hw) .nil) ?_
    exact ⟨rfl, by rw [eL32, eL33, eL18]; rfl⟩

theorem mac4_ok {G : PM} {b T : Nat} {hk h1 h2 h3 h4 : Sh} {key L1 L2 L3 L4 : List Y} (hle : PM.le G (G.add b (cl [h1.val L1.length, h2.val L2.length, h3.val L3.length, h4.val L4.length] T))) (hsk : SlR G 1 encY hk key) (hs : SlR G 1 encY h1 L1) (hs2 : SlR G 1 encY h2 L2) (hs3 : SlR G 1 encY h3 L3) (hs4 : SlR G 1 encY h4 L4) (hK : RdNP G 0 0 (wa 64 kW)) (hlk : key.length ≤ 140737488351232) (hl : L1.length + L2.length + L3.length + L4.length ≤ 1000000000000000) :
    Ct Tryd.prog 80 ([hk.val key.length, .slice (some ⟨b, 0, none⟩) 4 4] : List Value).toArray (G.add b (cl [h1.val L1.length, h2.val L2.length, h3.val L3.length, h4.val L4.length] T)) [] (fun _ μ' u => μ' = [] ∧ u = .agg (ba 32 (macL key (L1 ++ L2 ++ L3 ++ L4))).toArray) := by
  have h := macSum_ok key hk [(h1, L1), (h2, L2), (h3, L3), (h4, L4)] ⟨some ⟨b, 0, none⟩, 4⟩ _ (hsk.mono hle) (SlP.four hle hs hs2 hs3 hs4) (hK.mono hle) hlk (by simp [catL]; omega) (by simp)
  rw [show catL [(h1, L1), (h2, L2), (h3, L3), (h4, L4)] = L1 ++ L2 ++ L3 ++ L4 by simp [catL]] at h
  exact h
theorem Tag_ok (enc mac nonce : Nat → Y) (ad : List Y) (ha : Sh) (xs : List Y) (hx : Sh) (G : PM) (hsa : SlR G 1 encY ha ad) (hsx : SlR G 1 encY hx xs) (hK : RdNP G 0 0 (wa 64 kW)) (hla : ad.length ≤ 140737488351232) (hl : xs.length ≤ 140737488355328) : Ct Tryd.prog 72 ([.agg (ba 32 enc ++ ba 32 mac).toArray, .agg (ba 12 nonce).toArray, ha.val ad.length, hx.val xs.length] : List Value).toArray G [] (fun _ μ' u => μ' = [] ∧ u = .agg (ba 16 (tagF mac nonce ad xs)).toArray) := by
  refine Ct.of Tryd.func72 rfl Tryd.ntmps72 rfl fun w0 hs0 => ?_
  refine .seq ?_
  refine Wk.rg [0, 1, 2] rfl rfl ?_
  refine bx rfl (.u rfl) rfl ?_; intro b4
  refine bx rfl (.u rfl) rfl ?_; intro b5
  refine al rfl Fx.zq142 ?_; intro b8
  refine .nil ?_
  refine .code ?_
  refine .seq ?_
  refine wk_fz (.there (.there .here)) (by intro b hb; cases hb) ?_; intro Gfb4 hleb4 hbb4
  have hsa := hsa.mono hleb4
  have hsx := hsx.mono hleb4
  have hK := hK.mono hleb4
  refine wk_fz (.there .here) (by intro b hb; cases hb) ?_; intro Gfb5 hleb5 hbb5
  have hsa := hsa.mono hleb5
  have hsx := hsx.mono hleb5
  have hK := hK.mono hleb5
  have hbb4 := hbb4.mono hleb5
  refine Wk.draw (mc := ⟨false, false⟩) [0, 1, 2, 3, 4, 6, 7, 8, 5, 9, 10, 11, 12] Fx.mix (by kernel_rfl) ?_
  refine fa rfl .no Fx.fo70_1 (.u rfl) ?_
  refine kA rfl .no Fx.ar22 (.u rfl) hbb4 (by first | exact ba_all | exact app_l | exact app_r) ?_; intro h11 L11 eL11 lL11 hs11
  refine mv rfl .no (.u rfl) ?_
  refine ln rfl .no Fx.sn36 (.u rfl) ?_
  refine ci rfl .no rfl Fx.cv3_24 (.u rfl) ?_
  refine mv rfl .no (.u rfl) ?_
  refine kA rfl .no Fx.ar113 (.u rfl) hbb5 (by first | exact ba_all | exact app_l | exact app_r) ?_; intro h17 L17 eL17 lL17 hs17
  refine mv rfl .no (.u rfl) ?_
  refine kc rfl Fx.go32 (Eva.cons (.u rfl) (Eva.cons (.u rfl) (Eva.cons (.u rfl) Eva.nil))) (Ct.frzB (Fix_ok [] ⟨none, 0⟩ _ 8 _ SlR.nul (by simp) (by decide))) ?_
  rintro _ G15 μ15 hG15 ⟨h15, L15, eL15, rfl, rfl, hs15⟩
  have hsa := hsa.mono hG15
  have hsx := hsx.mono hG15
  have hK := hK.mono hG15
  have hbb4 := hbb4.mono hG15
  have hbb5 := hbb5.mono hG15
  have hs11 := hs11.mono hG15
  have hs17 := hs17.mono hG15
  refine Go.Tan.bN rfl Fx.se56 Fx.zv36 (Evp.cons (.u rfl) (Evp.cons (.u rfl) (Evp.cons (.u rfl) (Evp.cons (.u rfl) Evp.nil)))) rfl (by decide) (by simp [Value.oneCell', Sh.val]) ?_; intro b19
  have lL15 : L15.length = 8 := by rw [eL15, List.nil_append]; exact fix_len _ 8
  refine kp rfl .no Fx.go80 (Eva.cons (.u rfl) (Eva.cons (.u rfl) Eva.nil)) (Gp.add .here Gp.nil) (fun _ hle hq => mac4_ok hle hs11 hs15 hsa hs17 hsx hK (by omega) (by omega)) ?_
  refine al rfl Fx.zq23 ?_; intro b9
  refine sw rfl (.u rfl) (.u rfl) rfl Fx.sz23 .here (by first | exact (ba_len _ _).trans (ba_len _ _).symm | exact (wa_len _ _).trans (wa_len _ _).symm | exact ba_len _ _ | exact wa_len _ _ | rfl | (simp only [wa_len, ba_len, List.length_append, List.length_cons, List.length_nil])) (by first | exact ba_one _ _ | exact wa_one _ _ | exact one_V _ | decide | exact one_app (wa_one _ _) (by simp [Value.oneCell'])) ?_
  refine .nil ?_
  refine .code ?_
  refine .seq ?_
  refine Wk.rg [0, 1, 2, 3] rfl rfl ?_
  refine sah rfl .no Fx.ar23 (.u rfl) (.u rfl) (fun _ => by first | decide | omega) (fun _ => by first | decide | omega) ?_
  refine sp rfl .no Fx.ar142 (.u rfl) (fun _ => by first | decide | omega) ?_
  refine lA rfl .no Fx.ag142 (.u rfl) (fun _ => RdN.part (n := 16) (cs' := ba 16 _) .here (ba_take (by decide))) (fun _ => (by first | exact (ba_len _ _).trans (ba_len _ _).symm | exact (wa_len _ _).trans (wa_len _ _).symm | exact ba_len _ _ | exact wa_len _ _ | rfl | (simp only [wa_len, ba_len, List.length_append, List.length_cons, List.length_nil]))) ?_
  refine sw rfl (.u rfl) (.u rfl) rfl Fx.sz142 (.there (.there .here)) (by first | exact (ba_len _ _).trans (ba_len _ _).symm | exact (wa_len _ _).trans (wa_len _ _).symm | exact ba_len _ _ | exact wa_len _ _ | rfl | (simp only [wa_len, ba_len, List.length_append, List.length_cons, List.length_nil])) (by first | exact ba_one _ _ | exact wa_one _ _ | exact one_V _ | decide | exact one_app (wa_one _ _) (by simp [Value.oneCell'])) ?_
  refine .nil ?_
  refine .code ?_
  refine .ret ?_
  refine We.fin0 Tryd.results72 (.cell rfl (fun w hw => run_loadVarN Fx.ag142 (RdN.own .here) ((by first | exact (ba_len _ _).trans (ba_len _ _).symm | exact (wa_len _ _).trans (wa_len _ _).symm | exact ba_len _ _ | exact wa_len _ _ | rfl | (simp only [wa_len, ba_len, List.length_append, List.length_cons, List.length_nil]))) hw) .nil) ?_
  exact ⟨rfl, by rw [eL11, eL15, eL17]; rfl⟩

theorem tag_row (enc mac nonce : Nat → Y) (ad : List Y) (ha : Sh) (xs : List Y) (v : Value) (G : PM) (hsa : SlR G 1 encY ha ad) (hK : RdNP G 0 0 (wa 64 kW)) (hla : ad.length ≤ 140737488351232) (hl : xs.length ≤ 140737488355328) : Ct Tryd.prog 72 ([.agg (ba 32 enc ++ ba 32 mac).toArray, .agg (ba 12 nonce).toArray, ha.val ad.length, v] : List Value).toArray G [rB v 5 xs] (fun _ μ' u => ∃ ν, μ' = rB v 5 xs :: ν ∧ ν = [] ∧ u = .agg (ba 16 (tagF mac nonce ad xs)).toArray) :=
  Ct.lendB (fun hx G2 hle hv hs => by subst hv; exact Tag_ok enc mac nonce ad ha xs hx G2 (hsa.mono hle) hs (hK.mono hle) hla hl)
theorem Seal_ok (enc mac nonce : Nat → Y) (ad : List Y) (ha : Sh) (xs : List Y) (hx : Sh) (G : PM) (hsa : SlR G 1 encY ha ad) (hsx : SlR G 1 encY hx xs) (hK : RdNP G 0 0 (wa 64 kW)) (hla : ad.length ≤ 140737488351232) (hl : xs.length ≤ 140737488351232) : Ct Tryd.prog 50 ([.agg (ba 32 enc ++ ba 32 mac).toArray, .agg (ba 12 nonce).toArray, ha.val ad.length, hx.val xs.length] : List Value).toArray G [] (PR 5 (fun L => L = sealL enc mac nonce ad xs)) := by
  refine Ct.of Tryd.func50 rfl Tryd.ntmps50 rfl fun w0 hs0 => ?_
  have lc := cross_len enc nonce 1#32 xs
  refine .seq ?_
  refine Wk.rg [0, 1, 2] rfl rfl ?_
  refine bx rfl (.u rfl) rfl ?_; intro b4
  refine bx rfl (.u rfl) rfl ?_; intro b5
  refine asg rfl .no (.u rfl) ?_
  refine .nil ?_
  refine .code ?_
  refine .seq ?_
  refine Wk.rg [0, 1, 2, 3, 4, 5] rfl rfl ?_
  refine fz rfl .no Fx.fo70_0 (.u rfl) ?_
  refine lA rfl .no Fx.ag22 (.u rfl) (fun _ => RdN.part (n := 32) (cs' := ba 32 enc) (.there .here) (app_l)) (fun _ => (by first | exact (ba_len _ _).trans (ba_len _ _).symm | exact (wa_len _ _).trans (wa_len _ _).symm | exact ba_len _ _ | exact wa_len _ _ | rfl | (simp only [wa_len, ba_len, List.length_append, List.length_cons, List.length_nil]))) ?_
  refine lA rfl .no Fx.ag113 (.u rfl) (fun _ => RdN.own .here) (fun _ => (by first | exact (ba_len _ _).trans (ba_len _ _).symm | exact (wa_len _ _).trans (wa_len _ _).symm | exact ba_len _ _ | exact wa_len _ _ | rfl | (simp only [wa_len, ba_len, List.length_append, List.length_cons, List.length_nil]))) ?_
  refine mv rfl .no (.u rfl) ?_
  refine kc rfl Fx.go71 (Eva.cons (.u rfl) (Eva.cons (.u rfl) (Eva.cons (.u rfl) (Eva.cons (.u rfl) Eva.nil)))) (Ct.rowc (Cross_ok enc nonce 1#32 hx xs _ hsx hl)) ?_
  rintro v15 G15 μ15 hG15 ⟨L15, ov15, eL15, rfl⟩
  have hsa := hsa.mono hG15
  have hsx := hsx.mono hG15
  have hK := hK.mono hG15
  refine asg rfl .no (.u rfl) ?_
  refine .nil ?_
  refine .code ?_
  refine .seq ?_
  refine Wk.rg [0, 1, 2, 3, 4, 5, 6] rfl rfl ?_
  have lL15 : L15.length = xs.length := by rw [eL15, cross_len]
  refine lA rfl .no Fx.ag70 (.u rfl) (fun _ => RdN.own (.there (.there .here))) (fun _ => (by first | exact (ba_len _ _).trans (ba_len _ _).symm | exact (wa_len _ _).trans (wa_len _ _).symm | exact ba_len _ _ | exact wa_len _ _ | rfl | (simp only [wa_len, ba_len, List.length_append, List.length_cons, List.length_nil]))) ?_
  refine lA rfl .no Fx.ag113 (.u rfl) (fun _ => RdN.own (.there .here)) (fun _ => (by first | exact (ba_len _ _).trans (ba_len _ _).symm | exact (wa_len _ _).trans (wa_len _ _).symm | exact ba_len _ _ | exact wa_len _ _ | rfl | (simp only [wa_len, ba_len, List.length_append, List.length_cons, List.length_nil]))) ?_
  refine mv rfl .no (.u rfl) ?_
  refine mv rfl .no (.u rfl) ?_
  refine ka rfl (.inr rfl) Fx.go72 (Eva.cons (.u rfl) (Eva.cons (.u rfl) (Eva.cons (.u rfl) (Eva.cons (.u rfl) Eva.nil)))) (mtk1 .here) (tag_row enc mac nonce ad ha L15 _ _ hsa hK hla (by rw [eL15, cross_len]; omega)) ?_
  rintro _ G20 μ20 hG20 ⟨_, rfl, rfl, rfl⟩
  have hsa := hsa.mono hG20
  have hsx := hsx.mono hG20
  have hK := hK.mono hG20
  refine al rfl Fx.zq142 ?_; intro b10
  refine sw rfl (.u rfl) (.u rfl) rfl Fx.sz142 .here (by first | exact (ba_len _ _).trans (ba_len _ _).symm | exact (wa_len _ _).trans (wa_len _ _).symm | exact ba_len _ _ | exact wa_len _ _ | rfl | (simp only [wa_len, ba_len, List.length_append, List.length_cons, List.length_nil])) (by first | exact ba_one _ _ | exact wa_one _ _ | exact one_V _ | decide | exact one_app (wa_one _ _) (by simp [Value.oneCell'])) ?_
  refine .nil ?_
  refine .code ?_
  refine .seq ?_
  refine Wk.rg [0, 1, 2, 3] rfl rfl ?_
  refine mv rfl .no (.u rfl) ?_
  refine sa0 rfl .no Fx.ar142 (.u rfl) ?_
  refine apY rfl Fx.se36 Fx.zv5 (.u rfl) (.u rfl) (.there .here) (Sc.arr .here) (by (try simp only [List.length_append, List.length_cons, List.length_nil, yl_len]); omega) ?_
  intro v23 L23 ov23 eL23
  have lL23 : L23.length = L15.length + 16 := by rw [eL23, List.length_append]; first | rfl | simp [yl_len]
  refine asg rfl .no (.u rfl) ?_
  refine .nil ?_
  refine .code ?_
  refine .ret ?_
  refine We.fin Tryd.results50 (.tmp rfl .nil) (MSub.cons .here rfl MSub.nil) ?_
  exact ⟨L23, by rw [eL23, eL15]; rfl, rfl⟩

theorem Open_ok (enc mac nonce : Nat → Y) (ad : List Y) (ha : Sh) (xs : List Y) (hx : Sh) (G : PM) (hsa : SlR G 1 encY ha ad) (hsx : SlR G 1 encY hx xs) (hK : RdNP G 0 0 (wa 64 kW)) (hla : ad.length ≤ 140737488351232) (hl : xs.length ≤ 140737488351248) : Ct Tryd.prog 73 ([.agg (ba 32 enc ++ ba 32 mac).toArray, .agg (ba 12 nonce).toArray, ha.val ad.length, hx.val xs.length] : List Value).toArray G [] (fun _ μ' u => ∃ v L e, OpenR (openL enc mac nonce ad xs) L e ∧ μ' = [rB v 5 L] ∧ u = .tuple #[v, .int .i64 e]) := by
  refine Ct.of Tryd.func73 rfl Tryd.ntmps73 rfl fun w0 hs0 => ?_
  refine .seq ?_
  refine Wk.rg [0, 1, 2, 3] rfl rfl ?_
  refine bx rfl (.u rfl) rfl ?_; intro b4
  refine bx rfl (.u rfl) rfl ?_; intro b5
  refine asg rfl .no (.u rfl) ?_
  refine asg rfl .no (.u rfl) ?_
  refine .nil ?_
  refine .code ?_
  refine .seq ?_
  refine Wk.rg [0, 1, 2, 3] rfl rfl ?_
  refine mv rfl .no (.u rfl) ?_
  refine ln rfl .no Fx.sn36 (.u rfl) ?_
  refine ar rfl .no (.u rfl) (.u rfl) rfl (fun _ => wrap_i64 (by omega) (by omega)) ?_
  refine asg rfl .no (.u rfl) ?_
  refine .nil ?_
  refine .code ?_
  refine .seq ?_
  refine .seq ?_
  refine Wk.rg [0, 1] rfl rfl ?_
  refine mv rfl .no (.u rfl) ?_
  refine cp rfl .no (.u rfl) (.u rfl) rfl ?_
  refine .nil ?_
  refine .code ?_
  refine .cond rfl (fun c1 => ?_) (fun c1 => ?_)
  · have c1k := c1
    try simp only [decide_eq_true_eq, decide_eq_false_iff_not, Int.not_lt, Int.not_le, gt_iff_lt, ge_iff_le, Bool.or_eq_true, Bool.and_eq_true, Bool.or_eq_false_iff, Bool.not_eq_true', Bool.not_eq_false', Int.toNat_natCast, bne_iff_ne, beq_iff_eq, bne_eq_false_iff_eq, beq_eq_false_iff_ne, ne_eq] at c1
    refine .seq ?_
    refine Wk.rg [0, 1] rfl rfl ?_
    refine asg rfl .no (.u rfl) ?_
    refine asg rfl .no (.u rfl) ?_
    refine .nil ?_
    refine .code ?_
    refine .ret ?_
    refine we_nilB 5 ?_
    refine We.fin Tryd.results73 (.tmp rfl (.tmp rfl .nil)) (MSub.cons .here rfl MSub.nil) ?_
    rw [open_short (by omega)]; exact ⟨_, [], 60, .inr ⟨rfl, rfl, rfl⟩, rfl, rfl⟩
  · have c1k := c1
    try simp only [decide_eq_true_eq, decide_eq_false_iff_not, Int.not_lt, Int.not_le, gt_iff_lt, ge_iff_le, Bool.or_eq_true, Bool.and_eq_true, Bool.or_eq_false_iff, Bool.not_eq_true', Bool.not_eq_false', Int.toNat_natCast, bne_iff_ne, beq_iff_eq, bne_eq_false_iff_eq, beq_eq_false_iff_ne, ne_eq] at c1
    refine .skip ?_
    refine .code ?_
    refine .seq ?_
    refine Wk.rg [0, 1, 2, 3] rfl rfl ?_
    refine mv rfl .no (.u rfl) ?_
    refine mv rfl .no (.u rfl) ?_
    refine kE ((xs.length - 16)) rfl .no Fx.se36 hsx (.u rfl) (.u rfl) (fun _ => by omega) (fun _ => by omega) ?_
    intro h19 L19 eL19 lL19 hs19
    have lL19 := lL19 rfl
    refine asg rfl .no (.u rfl) ?_
    refine .nil ?_
    refine .code ?_
    refine .seq ?_
    refine .seq ?_
    refine Wk.draw (mc := ⟨false, false⟩) [0, 1, 2, 3, 5, 6, 7, 8, 9, 4, 10] Fx.mix (by kernel_rfl) ?_
    refine lA rfl .no Fx.ag70 (.u rfl) (fun _ => RdN.own (.there .here)) (fun _ => (by first | exact (ba_len _ _).trans (ba_len _ _).symm | exact (wa_len _ _).trans (wa_len _ _).symm | exact ba_len _ _ | exact wa_len _ _ | rfl | (simp only [wa_len, ba_len, List.length_append, List.length_cons, List.length_nil]))) ?_
    refine lA rfl .no Fx.ag113 (.u rfl) (fun _ => RdN.own .here) (fun _ => (by first | exact (ba_len _ _).trans (ba_len _ _).symm | exact (wa_len _ _).trans (wa_len _ _).symm | exact ba_len _ _ | exact wa_len _ _ | rfl | (simp only [wa_len, ba_len, List.length_append, List.length_cons, List.length_nil]))) ?_
    refine mv rfl .no (.u rfl) ?_
    refine mv rfl .no (.u rfl) ?_
    refine mv rfl .no (.u rfl) ?_
    refine mv rfl .no (.u rfl) ?_
    refine kD ((xs.length - 16)) rfl .no Fx.se36 hsx (.u rfl) (.u rfl) (fun _ => by omega) (fun _ => by omega) ?_
    intro h27 L27 eL27 lL27 hs27
    have lL27 := lL27 rfl
    refine spS rfl .no Fx.ar142 hs27 (.u rfl) (fun _ => by omega) (by decide) ?_
    refine lA rfl .no Fx.ag142 (.u rfl) (fun _ => (hs27.arr (m := 16) (by omega)).rd) (fun _ => ba_len _ _) ?_
    refine kv rfl .no Fx.go72 (Eva.cons (.u rfl) (Eva.cons (.u rfl) (Eva.cons (.u rfl) (Eva.cons (.u rfl) Eva.nil)))) (fun _ => Tag_ok enc mac nonce ad ha L19 h19 _ hsa hs19 hK hla (by omega)) ?_
    refine nqB rfl .no Fx.baT142 (.u rfl) (.u rfl) ?_
    refine .nil ?_
    refine .code ?_
    refine .cond rfl (fun c2 => ?_) (fun c2 => ?_)
    · have c2k := c2
      try simp only [decide_eq_true_eq, decide_eq_false_iff_not, Int.not_lt, Int.not_le, gt_iff_lt, ge_iff_le, Bool.or_eq_true, Bool.and_eq_true, Bool.or_eq_false_iff, Bool.not_eq_true', Bool.not_eq_false', Int.toNat_natCast, bne_iff_ne, beq_iff_eq, bne_eq_false_iff_eq, beq_eq_false_iff_ne, ne_eq] at c2
      refine .seq ?_
      refine Wk.rg [0, 1] rfl rfl ?_
      refine asg rfl .no (.u rfl) ?_
      refine asg rfl .no (.u rfl) ?_
      refine .nil ?_
      refine .code ?_
      refine .ret ?_
      refine we_nilB 5 ?_
      refine We.fin Tryd.results73 (.tmp rfl (.tmp rfl .nil)) (MSub.cons .here rfl MSub.nil) ?_
      rw [open_bad (by omega) (by rw [← eL19, ← eL27, ← yl_self L27, show L27.length = 16 by omega]; exact c2)]; exact ⟨_, [], 60, .inr ⟨rfl, rfl, rfl⟩, rfl, rfl⟩
    · have c2k := c2
      try simp only [decide_eq_true_eq, decide_eq_false_iff_not, Int.not_lt, Int.not_le, gt_iff_lt, ge_iff_le, Bool.or_eq_true, Bool.and_eq_true, Bool.or_eq_false_iff, Bool.not_eq_true', Bool.not_eq_false', Int.toNat_natCast, bne_iff_ne, beq_iff_eq, bne_eq_false_iff_eq, beq_eq_false_iff_ne, ne_eq] at c2
      refine .skip ?_
      refine .code ?_
      refine .seq ?_
      refine Wk.rg [0, 1, 2, 3, 4, 5, 6] rfl rfl ?_
      refine fz rfl .no Fx.fo70_0 (.u rfl) ?_
      refine lA rfl .no Fx.ag22 (.u rfl) (fun _ => RdN.part (n := 32) (cs' := ba 32 enc) (.there .here) (app_l)) (fun _ => (by first | exact (ba_len _ _).trans (ba_len _ _).symm | exact (wa_len _ _).trans (wa_len _ _).symm | exact ba_len _ _ | exact wa_len _ _ | rfl | (simp only [wa_len, ba_len, List.length_append, List.length_cons, List.length_nil]))) ?_
      refine lA rfl .no Fx.ag113 (.u rfl) (fun _ => RdN.own .here) (fun _ => (by first | exact (ba_len _ _).trans (ba_len _ _).symm | exact (wa_len _ _).trans (wa_len _ _).symm | exact ba_len _ _ | exact wa_len _ _ | rfl | (simp only [wa_len, ba_len, List.length_append, List.length_cons, List.length_nil]))) ?_
      refine mv rfl .no (.u rfl) ?_
      refine kc rfl Fx.go71 (Eva.cons (.u rfl) (Eva.cons (.u rfl) (Eva.cons (.u rfl) (Eva.cons (.u rfl) Eva.nil)))) (Ct.rowc (Cross_ok enc nonce 1#32 h19 L19 _ hs19 (by omega))) ?_
      rintro v35 G35 μ35 hG35 ⟨L35, ov35, eL35, rfl⟩
      have hsa := hsa.mono hG35
      have hsx := hsx.mono hG35
      have hK := hK.mono hG35
      have hs19 := hs19.mono hG35
      have hs27 := hs27.mono hG35
      refine asg rfl .no (.u rfl) ?_
      refine asg rfl .no (.u rfl) ?_
      refine .nil ?_
      refine .code ?_
      refine .ret ?_
      refine We.fin Tryd.results73 (.tmp rfl (.tmp rfl .nil)) (MSub.cons .here rfl MSub.nil) ?_
      rw [open_good (by omega) (by rw [← eL19, ← eL27, ← yl_self L27, show L27.length = 16 by omega]; exact c2), ← eL19]; exact ⟨v35, L35, 0, .inl ⟨by rw [eL35], rfl⟩, rfl, rfl⟩

end Go.Proofs.YtbdnclpopappeaaDoor

namespace Go.Proofs.YtbdnclpopappeaaDoor
set_option linter.unusedSimpArgs false
set_option linter.unusedVariables false
open Go.Tan Go.RowKit

namespace Fx
theorem cst36 : csT Tryd.prog 36 = true := by kernel_rfl
end Fx
def zF : Nat → Y := fun _ => 0#8
end Go.Proofs.YtbdnclpopappeaaDoor

namespace Go.Proofs.YtbdnclpopappeaaDoor
set_option linter.unusedSimpArgs false
set_option linter.unusedVariables false
open Go.Tan Go.RowKit


end Go.Proofs.YtbdnclpopappeaaDoor

namespace Go.Proofs.YtbdnclpopappeaaDoor
set_option linter.unusedSimpArgs false
set_option linter.unusedVariables false
open Go.Tan Go.RowKit

end Go.Proofs.YtbdnclpopappeaaDoor

namespace Go.Proofs.YtbdnclpopappeaaDoor
set_option linter.unusedSimpArgs false
set_option linter.unusedVariables false
open Go.Tan Go.RowKit


end Go.Proofs.YtbdnclpopappeaaDoor

namespace Go.Proofs.YtbdnclpopappeaaDoor
set_option linter.unusedSimpArgs false
set_option linter.unusedVariables false
open Go.Tan Go.RowKit


end Go.Proofs.YtbdnclpopappeaaDoor

namespace Go.Proofs.YtbdnclpopappeaaDoor
set_option linter.unusedSimpArgs false
set_option linter.unusedVariables false
open Go.Tan Go.RowKit

namespace Fx
theorem go82 : goFn Tryd.prog 82 = true := by kernel_rfl
theorem go76 : goFn Tryd.prog 76 = true := by kernel_rfl
end Fx
theorem nibble_ok (x : W) (G : PM) : Ct Tryd.prog 82 ([U x] : List Value).toArray G [] (fun _ μ' u => μ' = [] ∧ u = U (hIt 4 x)) := by
  refine Ct.of Tryd.func82 rfl Tryd.ntmps82 rfl fun w0 hs0 => ?_
  refine .seq ?_
  refine Wk.rg [0] rfl rfl ?_
  refine asg rfl .no (.u rfl) ?_
  refine .nil ?_
  refine .code ?_
  refine .seq ?_
  refine .seq ?_
  refine Wk.rg [0] rfl rfl ?_
  refine mv rfl .no (.u rfl) ?_
  refine .nil ?_
  refine .code ?_
  refine .block ?_
  refine Wk.lop (α := Nat × W) (fun gh => [(0, true, U gh.2), (3, true, .int .i64 (gh.1 : Int))]) (fun _ => [])
    (fun gh Gl => (gh.1 ≤ 4) ∧ (gh.2 = hIt gh.1 x)) (fun gh => 4 - gh.1) (0, x) [] []
    (ESub.cons rfl rfl (ESub.cons rfl (by first | rfl | exact evi (by omega)) ESub.nil))
    MSub.nil ?_ ?_
  · refine ⟨?_, ?_⟩
    · (try dsimp only) <;> (first | omega | rfl | assumption | (simp; done))
    · (try dsimp only) <;> (first | omega | rfl | assumption | (simp; done))
  intro gh N0 Gl0 hN0 hGl0 hF0
  obtain ⟨k, y⟩ := gh; dsimp only at hF0 hN0 ⊢
  obtain ⟨hk, ey⟩ := hF0
  refine .seq ?_
  refine Wk.rg [0] rfl rfl ?_
  refine cp rfl .no (.u rfl) (.u rfl) rfl ?_
  refine .nil ?_
  refine .code ?_
  refine .seq ?_
  refine .cond rfl (fun c1 => ?_) (fun c1 => ?_)
  · have c1k := c1
    try simp only [decide_eq_true_eq, decide_eq_false_iff_not, Int.not_lt, Int.not_le, gt_iff_lt, ge_iff_le, Bool.or_eq_true, Bool.and_eq_true, Bool.or_eq_false_iff, Bool.not_eq_true', Bool.not_eq_false', Int.toNat_natCast, bne_iff_ne, beq_iff_eq, bne_eq_false_iff_eq, beq_eq_false_iff_ne, ne_eq] at c1
    refine .skip ?_
    refine .code ?_
    refine .seq ?_
    refine .block ?_
    refine Wk.rg [0, 1, 2, 3, 4, 5, 6, 7] rfl rfl ?_
    refine mv rfl .no (.u rfl) ?_
    refine rw' (k := .u32) rfl .no (.u rfl) (.u rfl) (fun _ => by decide) ?_
    refine mv rfl .no (.u rfl) ?_
    refine bw (k := .u32) (b := 1#32) rfl .no rfl (.u rfl) (.u rfl) rfl ?_
    refine nw (k := .u32) rfl .no rfl (.u rfl) ?_
    refine bw (k := .u32) (a := 2197175160#32) rfl .no rfl (.u rfl) (.u rfl) rfl ?_
    refine bw (k := .u32) rfl .no rfl (.u rfl) (.u rfl) rfl ?_
    refine asg rfl .no (.u rfl) ?_
    refine .nil ?_
    refine .blk ?_
    refine .code ?_
    refine Wk.rg [0, 1] rfl rfl ?_
    refine arn (((k + 1) : Nat) : Int) rfl .no (.u rfl) (.u rfl) rfl (fun _ => by omega) (fun _ => wrap_i64 (by omega) (by omega)) ?_
    refine mv rfl .no (.u rfl) ?_
    refine .nil ?_
    refine We.lpo (k + 1, halfW y) ?_ ?_ ?_ ?_ ?_
    · exact (ESub.cons rfl rfl (ESub.cons rfl (by first | rfl | exact evi (by omega)) ESub.nil))
    · exact MSub.nil
    · first | omega | (dsimp only; omega)
    · exact hGl0
    · refine ⟨?_, ?_⟩
      · (try dsimp only) <;> (first | omega | rfl | assumption | (simp; done))
      · (try dsimp only) <;> (rw [ey]; rfl)
  · have c1k := c1
    try simp only [decide_eq_true_eq, decide_eq_false_iff_not, Int.not_lt, Int.not_le, gt_iff_lt, ge_iff_le, Bool.or_eq_true, Bool.and_eq_true, Bool.or_eq_false_iff, Bool.not_eq_true', Bool.not_eq_false', Int.toNat_natCast, bne_iff_ne, beq_iff_eq, bne_eq_false_iff_eq, beq_eq_false_iff_ne, ne_eq] at c1
    refine .exit ?_
    refine .xcode ?_
    refine .xlp ?_
    refine .xblk ?_
    refine .code ?_
    refine .seq ?_
    refine Wk.rg [0, 1] rfl rfl ?_
    refine mv rfl .no (.u rfl) ?_
    refine asg rfl .no (.u rfl) ?_
    refine .nil ?_
    refine .code ?_
    refine .ret ?_
    refine We.fin0 Tryd.results82 (.tmp rfl .nil) ?_
    obtain rfl : k = 4 := by omega
    exact ⟨rfl, by rw [ey]; rfl⟩

theorem crcMore_ok (sum : W) (xs : List Y) (h : Sh) (G : PM) (hs : SlR G 1 encY h xs) (hl : xs.length ≤ 9000000000000000000) : Ct Tryd.prog 76 ([U sum, h.val xs.length] : List Value).toArray G [] (fun _ μ' u => μ' = [] ∧ u = U (crcW sum xs)) := by
  refine Ct.of Tryd.func76 rfl Tryd.ntmps76 rfl fun w0 hs0 => ?_
  refine .seq ?_
  refine Wk.rg [0] rfl rfl ?_
  refine asg rfl .no (.u rfl) ?_
  refine .nil ?_
  refine .code ?_
  refine .seq ?_
  refine Wk.rg [0, 1, 2] rfl rfl ?_
  refine mv rfl .no (.u rfl) ?_
  refine xw (k := .u32) rfl .no rfl (.u rfl) ?_
  refine asg rfl .no (.u rfl) ?_
  refine .nil ?_
  refine .code ?_
  refine .seq ?_
  refine .seq ?_
  refine Wk.rg [0, 1, 2] rfl rfl ?_
  refine mv rfl .no (.u rfl) ?_
  refine ln rfl .no Fx.sn36 (.u rfl) ?_
  refine mv rfl .no (.u rfl) ?_
  refine .nil ?_
  refine .code ?_
  refine .block ?_
  refine Wk.lop (α := Nat × W) (fun gh => [(5, true, U gh.2), (12, true, .int .i64 (gh.1 : Int))]) (fun _ => [])
    (fun gh Gl => (gh.1 ≤ xs.length) ∧ (gh.2 = (xs.take gh.1).foldl crcB (~~~sum))) (fun gh => xs.length - gh.1) (0, ~~~sum) [(10, true, _), (11, true, _)] []
    (ESub.cons rfl rfl (ESub.cons rfl (by first | rfl | exact evi (by omega)) (ESub.cons rfl rfl (ESub.cons rfl rfl ESub.nil))))
    MSub.nil ?_ ?_
  · refine ⟨?_, ?_⟩
    · (try dsimp only) <;> (first | omega | rfl | assumption | (simp; done))
    · (try dsimp only) <;> (first | omega | rfl | assumption | (simp; done))
  intro gh N0 Gl0 hN0 hGl0 hF0
  obtain ⟨k, x⟩ := gh; dsimp only at hF0 hN0 ⊢
  obtain ⟨hk, ex⟩ := hF0
  have hs := hs.mono hGl0
  refine .seq ?_
  refine Wk.rg [0] rfl rfl ?_
  refine cp rfl .no (.u rfl) (.u rfl) rfl ?_
  refine .nil ?_
  refine .code ?_
  refine .seq ?_
  refine .cond rfl (fun c1 => ?_) (fun c1 => ?_)
  · have c1k := c1
    try simp only [decide_eq_true_eq, decide_eq_false_iff_not, Int.not_lt, Int.not_le, gt_iff_lt, ge_iff_le, Bool.or_eq_true, Bool.and_eq_true, Bool.or_eq_false_iff, Bool.not_eq_true', Bool.not_eq_false', Int.toNat_natCast, bne_iff_ne, beq_iff_eq, bne_eq_false_iff_eq, beq_eq_false_iff_ne, ne_eq] at c1
    refine .skip ?_
    refine .code ?_
    refine .seq ?_
    refine .block ?_
    refine .seq ?_
    refine Wk.rg [0, 1, 2] rfl rfl ?_
    refine ih rfl .no Fx.se36 (.u rfl) (.u rfl) (fun _ => by omega) (fun _ => by omega) (fun _ => hs.nn (k := k) (by omega)) ?_
    refine ld rfl .no Fx.ag5 (.u rfl) (fun _ => (hs.yat (k) (by omega) (by omega)).rd) ?_
    refine asg rfl .no (.u rfl) ?_
    refine .nil ?_
    refine .code ?_
    refine Wk.rg [0, 1, 2, 3, 4, 5, 6] rfl rfl ?_
    refine mv rfl .no (.u rfl) ?_
    refine mv rfl .no (.u rfl) ?_
    refine cu (k := .u8) rfl .no rfl Fx.cv5_126 (.u rfl) ?_
    refine bw (k := .u32) rfl .no rfl (.u rfl) (.u rfl) rfl ?_
    refine kv rfl .no Fx.go82 (Eva.cons (.u rfl) Eva.nil) (fun _ => nibble_ok _ _) ?_
    refine kv rfl .no Fx.go82 (Eva.cons (.u rfl) Eva.nil) (fun _ => nibble_ok _ _) ?_
    refine asg rfl .no (.u rfl) ?_
    refine .nil ?_
    refine .blk ?_
    refine .code ?_
    refine Wk.rg [0, 1] rfl rfl ?_
    refine arn (((k + 1) : Nat) : Int) rfl .no (.u rfl) (.u rfl) rfl (fun _ => by omega) (fun _ => wrap_i64 (by omega) (by omega)) ?_
    refine mv rfl .no (.u rfl) ?_
    refine .nil ?_
    refine We.lpo (k + 1, hIt 4 (hIt 4 (x ^^^ (xs.getD k 0).setWidth 32))) ?_ ?_ ?_ ?_ ?_
    · exact (ESub.cons rfl rfl (ESub.cons rfl (by first | rfl | exact evi (by omega)) (ESub.cons rfl rfl (ESub.cons rfl rfl ESub.nil))))
    · exact MSub.nil
    · first | omega | (dsimp only; omega)
    · exact hGl0
    · refine ⟨?_, ?_⟩
      · (try dsimp only) <;> (first | omega | rfl | assumption | (simp; done))
      · (try dsimp only) <;> (rw [fold_take (by omega), ← ex, hIt_add]; rfl)
  · have c1k := c1
    try simp only [decide_eq_true_eq, decide_eq_false_iff_not, Int.not_lt, Int.not_le, gt_iff_lt, ge_iff_le, Bool.or_eq_true, Bool.and_eq_true, Bool.or_eq_false_iff, Bool.not_eq_true', Bool.not_eq_false', Int.toNat_natCast, bne_iff_ne, beq_iff_eq, bne_eq_false_iff_eq, beq_eq_false_iff_ne, ne_eq] at c1
    refine .exit ?_
    refine .xcode ?_
    refine .xlp ?_
    refine .xblk ?_
    refine .code ?_
    refine .seq ?_
    refine Wk.rg [0, 1, 2] rfl rfl ?_
    refine mv rfl .no (.u rfl) ?_
    refine xw (k := .u32) rfl .no rfl (.u rfl) ?_
    refine asg rfl .no (.u rfl) ?_
    refine .nil ?_
    refine .code ?_
    refine .ret ?_
    refine We.fin0 Tryd.results76 (.tmp rfl .nil) ?_
    obtain rfl : k = xs.length := by omega
    exact ⟨rfl, by rw [ex, List.take_length]; rfl⟩

theorem crcSum_ok (ps : List (Sh × List Y)) (h : Sh) (G : PM) (hs : SlP G h ps) (hl : (catL ps).length ≤ 9000000000000000000) (hn : ps.length ≤ 1000) : Ct Tryd.prog 61 ([h.val ps.length] : List Value).toArray G [] (fun _ μ' u => μ' = [] ∧ u = U (crcW 0#32 (catL ps))) := by
  refine Ct.of Tryd.func61 rfl Tryd.ntmps61 rfl fun w0 hs0 => ?_
  refine .seq ?_
  refine Wk.rg [0] rfl rfl ?_
  refine asg rfl .no (.u rfl) ?_
  refine .nil ?_
  refine .code ?_
  refine .seq ?_
  refine Wk.rg [0] rfl rfl ?_
  refine asg rfl .no (.u rfl) ?_
  refine .nil ?_
  refine .code ?_
  refine .seq ?_
  refine .seq ?_
  refine Wk.rg [0, 1, 2] rfl rfl ?_
  refine mv rfl .no (.u rfl) ?_
  refine ln rfl .no Fx.sn56 (.u rfl) ?_
  refine mv rfl .no (.u rfl) ?_
  refine .nil ?_
  refine .code ?_
  refine .block ?_
  refine Wk.lop (α := Nat × W) (fun gh => [(3, true, U gh.2), (8, true, .int .i64 (gh.1 : Int))]) (fun _ => [])
    (fun gh Gl => (gh.1 ≤ ps.length) ∧ (gh.2 = crcW 0#32 (catL (ps.take gh.1)))) (fun gh => ps.length - gh.1) (0, 0#32) [(6, true, _), (7, true, _)] []
    (ESub.cons rfl rfl (ESub.cons rfl (by first | rfl | exact evi (by omega)) (ESub.cons rfl rfl (ESub.cons rfl rfl ESub.nil))))
    MSub.nil ?_ ?_
  · refine ⟨?_, ?_⟩
    · (try dsimp only) <;> (first | omega | rfl | assumption | (simp; done))
    · (try dsimp only) <;> (simp [catL, crc_nil])
  intro gh N0 Gl0 hN0 hGl0 hF0
  obtain ⟨k, x⟩ := gh; dsimp only at hF0 hN0 ⊢
  obtain ⟨hk, ex⟩ := hF0
  have hs := hs.mono hGl0
  refine .seq ?_
  refine Wk.rg [0] rfl rfl ?_
  refine cp rfl .no (.u rfl) (.u rfl) rfl ?_
  refine .nil ?_
  refine .code ?_
  refine .seq ?_
  refine .cond rfl (fun c1 => ?_) (fun c1 => ?_)
  · have c1k := c1
    try simp only [decide_eq_true_eq, decide_eq_false_iff_not, Int.not_lt, Int.not_le, gt_iff_lt, ge_iff_le, Bool.or_eq_true, Bool.and_eq_true, Bool.or_eq_false_iff, Bool.not_eq_true', Bool.not_eq_false', Int.toNat_natCast, bne_iff_ne, beq_iff_eq, bne_eq_false_iff_eq, beq_eq_false_iff_ne, ne_eq] at c1
    refine .skip ?_
    refine .code ?_
    refine .seq ?_
    refine .block ?_
    refine .seq ?_
    refine Wk.rg [0, 1, 2] rfl rfl ?_
    refine ih rfl .no Fx.se56 (.u rfl) (.u rfl) (fun _ => by omega) (fun _ => by omega) (fun _ => hs.sl.nn (k := k) (by omega)) ?_
    obtain ⟨p11, ep11⟩ := getx (k := k) (xs := ps) (by omega)
    have hq11 := hs.get ep11
    refine ld rfl .no Fx.ag36 (.u rfl) (fun _ => (hs.at (k) (by omega) ep11).rd) ?_
    refine asg rfl .no (.u rfl) ?_
    refine .nil ?_
    refine .code ?_
    refine Wk.rg [0, 1, 2, 3] rfl rfl ?_
    refine mv rfl .no (.u rfl) ?_
    refine mv rfl .no (.u rfl) ?_
    refine kv rfl .no Fx.go76 (Eva.cons (.u rfl) (Eva.cons (.u rfl) Eva.nil)) (fun _ => crcMore_ok _ p11.2 _ _ hq11 (by have := cat_len ep11; omega)) ?_
    refine asg rfl .no (.u rfl) ?_
    refine .nil ?_
    refine .blk ?_
    refine .code ?_
    refine Wk.rg [0, 1] rfl rfl ?_
    refine arn (((k + 1) : Nat) : Int) rfl .no (.u rfl) (.u rfl) rfl (fun _ => by omega) (fun _ => wrap_i64 (by omega) (by omega)) ?_
    refine mv rfl .no (.u rfl) ?_
    refine .nil ?_
    refine We.lpo (k + 1, crcW x p11.2) ?_ ?_ ?_ ?_ ?_
    · exact (ESub.cons rfl rfl (ESub.cons rfl (by first | rfl | exact evi (by omega)) (ESub.cons rfl rfl (ESub.cons rfl rfl ESub.nil))))
    · exact MSub.nil
    · first | omega | (dsimp only; omega)
    · exact hGl0
    · refine ⟨?_, ?_⟩
      · (try dsimp only) <;> (first | omega | rfl | assumption | (simp; done))
      · (try dsimp only) <;> (rw [ex, crc_app, cat_take ep11])
  · have c1k := c1
    try simp only [decide_eq_true_eq, decide_eq_false_iff_not, Int.not_lt, Int.not_le, gt_iff_lt, ge_iff_le, Bool.or_eq_true, Bool.and_eq_true, Bool.or_eq_false_iff, Bool.not_eq_true', Bool.not_eq_false', Int.toNat_natCast, bne_iff_ne, beq_iff_eq, bne_eq_false_iff_eq, beq_eq_false_iff_ne, ne_eq] at c1
    refine .exit ?_
    refine .xcode ?_
    refine .xlp ?_
    refine .xblk ?_
    refine .code ?_
    refine .seq ?_
    refine Wk.rg [0, 1] rfl rfl ?_
    refine mv rfl .no (.u rfl) ?_
    refine asg rfl .no (.u rfl) ?_
    refine .nil ?_
    refine .code ?_
    refine .ret ?_
    refine We.fin0 Tryd.results61 (.tmp rfl .nil) ?_
    obtain rfl : k = ps.length := by omega
    exact ⟨rfl, by rw [ex, List.take_length]; rfl⟩

end Go.Proofs.YtbdnclpopappeaaDoor

namespace Go.Proofs.YtbdnclpopappeaaDoor
set_option linter.unusedSimpArgs false
set_option linter.unusedVariables false
open Go.Tan Go.RowKit

namespace Fx
theorem sb9_36 : sbT Tryd.prog 9 36 = true := by kernel_rfl
theorem go61 : goFn Tryd.prog 61 = true := by kernel_rfl
theorem cv3_126 : cvK Tryd.prog 3 126 = some .u32 := by kernel_rfl
theorem se74 : slE Tryd.prog 74 = some (9, 1, 16) := by kernel_rfl
theorem sn74 : (slE Tryd.prog 74).isSome = true := by kernel_rfl
theorem go52 : goFn Tryd.prog 52 = true := by kernel_rfl
theorem cv3_5 : cvK Tryd.prog 3 5 = some .u8 := by kernel_rfl
end Fx
theorem crc1_ok {G : PM} {b T : Nat} {h1 : Sh} {L1 : List Y} (hle : PM.le G (G.add b (cl [h1.val L1.length] T))) (hs : SlR G 1 encY h1 L1) (hl : L1.length ≤ 1000000000000000) :
    Ct Tryd.prog 61 ([.slice (some ⟨b, 0, none⟩) 1 1] : List Value).toArray (G.add b (cl [h1.val L1.length] T)) [] (fun _ μ' u => μ' = [] ∧ u = U (crcW 0#32 L1)) := by
  have h := crcSum_ok [(h1, L1)] ⟨some ⟨b, 0, none⟩, 1⟩ _ (SlP.one hle hs) (by simpa [catL] using Nat.le_trans hl (by decide)) (by simp)
  rw [show catL [(h1, L1)] = L1 by simp [catL]] at h
  exact h
theorem set_ok (L : List Y) (bb cap n : Nat) (en : n = L.length) (key : ByteArray) (pr : Nat) (G : PM) (h0 : 0 < L.length) (hn : L.length ≤ 100000000) (hk : key.size ≤ 1000000000000000) (hpr : pr ≤ 1000000) : Ct Tryd.prog 52 ([.slice (some ⟨bb, 0, none⟩) n cap, .string key, .int .i64 (pr : Int)] : List Value).toArray G [rB (.slice (some ⟨bb, 0, none⟩) n cap) 5 L] (fun _ μ' u => μ' = [rB (.slice (some ⟨bb, 0, none⟩) n cap) 5 (setL key L pr)] ∧ u = .tuple #[]) := by
  subst en
  refine Ct.of Tryd.func52 rfl Tryd.ntmps52 rfl fun w0 hs0 => ?_
  refine .seq ?_
  refine Wk.rg [0, 1, 2, 3, 4] rfl rfl ?_
  refine mv rfl .no (.u rfl) ?_
  refine cvS rfl rfl Fx.sb9_36 (.u rfl) ?_; intro G10 h10 hG10 hs10
  refine Go.Tan.b1 rfl Fx.se56 Fx.zv36 (.u rfl) rfl rfl (by decide) ?_; intro b11
  refine kp rfl .no Fx.go61 (Eva.cons (.u rfl) Eva.nil) (Gp.add .here Gp.nil) (fun _ hle hq => crc1_ok hle hs10 (by rw [yb_len]; omega)) ?_
  refine asg rfl .no (.u rfl) ?_
  refine .nil ?_
  refine .code ?_
  refine .seq ?_
  refine Wk.rg [0, 1, 2] rfl rfl ?_
  refine mv rfl .no (.u rfl) ?_
  refine kv rfl .no Fx.go62 (Eva.cons (.u rfl) (Eva.cons (.u rfl) Eva.nil)) (fun _ => rot_ok _ 15 _) ?_
  refine asg rfl .no (.u rfl) ?_
  refine .nil ?_
  refine .code ?_
  refine .seq ?_
  refine Wk.rg [0, 1] rfl rfl ?_
  refine mv rfl .no (.u rfl) ?_
  refine mv rfl .no (.u rfl) ?_
  refine .nil ?_
  refine .code ?_
  refine .block ?_
  refine Wk.lop (α := Nat × List Y) (fun gh => [(6, true, U (hJ key gh.1)), (16, true, .int .i64 (gh.1 : Int))]) (fun gh => [rB (.slice (some ⟨bb, 0, none⟩) L.length cap) 5 gh.2])
    (fun gh Gl => (gh.1 ≤ pr) ∧ (gh.2 = setL key L gh.1) ∧ (gh.2.length = L.length)) (fun gh => pr - gh.1) (0, L) [(0, true, _), (7, true, _), (15, true, _)] [_]
    (ESub.cons rfl rfl (ESub.cons rfl (by first | rfl | exact evi (by omega)) (ESub.cons rfl rfl (ESub.cons rfl rfl (ESub.cons rfl rfl ESub.nil)))))
    (MSub.cons (.there .here) rfl (MSub.cons .here rfl MSub.nil)) ?_ ?_
  · refine ⟨?_, ?_, ?_⟩
    · (try dsimp only) <;> (first | omega | rfl | assumption | (simp; done))
    · (try dsimp only) <;> (rfl)
    · (try dsimp only) <;> (first | omega | rfl | assumption | (simp; done))
  intro gh N0 Gl0 hN0 hGl0 hF0
  obtain ⟨k, M⟩ := gh; dsimp only at hF0 hN0 ⊢
  obtain ⟨hk2, eM, lM⟩ := hF0
  have hs10 := hs10.mono hGl0
  refine .seq ?_
  refine Wk.rg [0] rfl rfl ?_
  refine cp rfl .no (.u rfl) (.u rfl) rfl ?_
  refine .nil ?_
  refine .code ?_
  refine .seq ?_
  refine .cond rfl (fun c1 => ?_) (fun c1 => ?_)
  · have c1k := c1
    try simp only [decide_eq_true_eq, decide_eq_false_iff_not, Int.not_lt, Int.not_le, gt_iff_lt, ge_iff_le, Bool.or_eq_true, Bool.and_eq_true, Bool.or_eq_false_iff, Bool.not_eq_true', Bool.not_eq_false', Int.toNat_natCast, bne_iff_ne, beq_iff_eq, bne_eq_false_iff_eq, beq_eq_false_iff_ne, ne_eq] at c1
    refine .skip ?_
    refine .code ?_
    refine .seq ?_
    refine .block ?_
    refine .seq ?_
    refine Wk.rg [0, 1, 2, 3, 4, 5, 6] rfl rfl ?_
    refine mv rfl .no (.u rfl) ?_
    refine mv rfl .no (.u rfl) ?_
    refine lr rfl .no Fx.sn36 (.u rfl) .here ?_
    refine arn (((8 * M.length) : Nat) : Int) rfl .no (.u rfl) (.u rfl) rfl (fun _ => by omega) (fun _ => wrap_i64 (by omega) (by omega)) ?_
    refine ci rfl .no rfl Fx.cv3_126 (.u rfl) ?_
    refine mw (k := .u32) (b := BitVec.ofInt 32 ((8 * M.length : Nat) : Int)) rfl .no (.u rfl) (.u rfl) (fun _ => st_nz (by omega) (by omega)) ?_
    refine asg rfl .no (.u rfl) ?_
    refine .nil ?_
    refine .code ?_
    refine .seq ?_
    refine Wk.rg [0, 1, 2, 3, 4, 5, 6, 7, 8, 9, 10] rfl rfl ?_
    refine mv rfl .no (.u rfl) ?_
    refine mv rfl .no (.u rfl) ?_
    refine rw' (k := .u32) rfl .no (.u rfl) (.u rfl) (fun _ => by decide) ?_
    have hp8 : (plcW key M.length k >>> 3).toNat < M.length := st_idx (by omega) (by omega)
    refine ia rfl .no Fx.se36 (.u rfl) (.u rfl) (fun _ => Int.natCast_nonneg _) (fun _ => Int.ofNat_lt.2 (Nat.lt_of_lt_of_eq hp8 lM)) ?_
    refine ld rfl .no Fx.ag5 (.u rfl) (fun _ => Rd.row .here (map_at1 _ (by rw [Nat.zero_add, Nat.mul_one]; rfl) hp8)) ?_
    refine mv rfl .no (.u rfl) ?_
    refine bw (k := .u32) (b := 7#32) rfl .no rfl (.u rfl) (.u rfl) rfl ?_
    refine lw (k := .u8) (a := 1#8) rfl .no rfl (.s rfl) (.u rfl) (fun _ => Int.natCast_nonneg _) ?_
    refine bw (k := .u8) rfl .no rfl (.u rfl) (.u rfl) rfl ?_
    refine ia rfl .no Fx.se36 (.u rfl) (.u rfl) (fun _ => Int.natCast_nonneg _) (fun _ => Int.ofNat_lt.2 (Nat.lt_of_lt_of_eq hp8 lM)) ?_
    refine s1r rfl (.u rfl) (.u rfl) Fx.sz5 .here (by rw [Nat.zero_add, Nat.mul_one]; exact hp8) ?_; intro Ls5_10 eLs5_10 lLs5_10
    refine .nil ?_
    refine .code ?_
    refine Wk.rg [0, 1, 2, 3] rfl rfl ?_
    refine mv rfl .no (.u rfl) ?_
    refine mv rfl .no (.u rfl) ?_
    refine bw (k := .u32) rfl .no rfl (.u rfl) (.u rfl) rfl ?_
    refine asg rfl .no (.u rfl) ?_
    refine .nil ?_
    refine .blk ?_
    refine .code ?_
    refine Wk.rg [0, 1] rfl rfl ?_
    refine arn (((k + 1) : Nat) : Int) rfl .no (.u rfl) (.u rfl) rfl (fun _ => by omega) (fun _ => wrap_i64 (by omega) (by omega)) ?_
    refine mv rfl .no (.u rfl) ?_
    refine .nil ?_
    refine We.lpo (k + 1, Ls5_10) ?_ ?_ ?_ ?_ ?_
    · exact (ESub.cons rfl rfl (ESub.cons rfl (by first | rfl | exact evi (by omega)) (ESub.cons rfl rfl (ESub.cons rfl rfl (ESub.cons rfl rfl ESub.nil)))))
    · exact (MSub.cons .here rfl (MSub.cons .here rfl MSub.nil))
    · first | omega | (dsimp only; omega)
    · exact hGl0
    · refine ⟨?_, ?_, ?_⟩
      · (try dsimp only) <;> (first | omega | rfl | assumption | (simp; done))
      · (try dsimp only) <;> (exact st_put lM (by rw [eLs5_10, eM, Nat.zero_add, Nat.mul_one]; rfl))
      · (try dsimp only) <;> (first | omega | rfl | assumption | (simp; done))
  · have c1k := c1
    try simp only [decide_eq_true_eq, decide_eq_false_iff_not, Int.not_lt, Int.not_le, gt_iff_lt, ge_iff_le, Bool.or_eq_true, Bool.and_eq_true, Bool.or_eq_false_iff, Bool.not_eq_true', Bool.not_eq_false', Int.toNat_natCast, bne_iff_ne, beq_iff_eq, bne_eq_false_iff_eq, beq_eq_false_iff_ne, ne_eq] at c1
    refine .exit ?_
    refine .xcode ?_
    refine .xlp ?_
    refine .xblk ?_
    refine .nil ?_
    refine We.fin Tryd.results52 .nil (MSub.cons .here rfl MSub.nil) ?_
    obtain rfl : k = pr := by omega
    exact ⟨by rw [eM], rfl⟩

theorem may_ok (h : Sh) (f : List Y) (key : ByteArray) (G : PM) (hs : SlR G 1 encY h f) (hl : f.length ≤ 100000000) (hk : key.size ≤ 1000000000000000) : Ct Tryd.prog 35 ([h.val f.length, .string key] : List Value).toArray G [] (fun _ μ' u => μ' = [] ∧ u = .bool (mayB f key)) := by
  refine Ct.of Tryd.func35 rfl Tryd.ntmps35 rfl fun w0 hs0 => ?_
  refine .seq ?_
  refine Wk.rg [0] rfl rfl ?_
  refine asg rfl .no (.u rfl) ?_
  refine .nil ?_
  refine .code ?_
  refine .seq ?_
  refine .seq ?_
  refine Wk.rg [0, 1, 2, 3, 4, 5, 6, 7, 8, 9, 10, 11, 12, 13, 14, 15, 16, 17, 18, 19, 20] rfl rfl ?_
  refine mv rfl .no (.u rfl) ?_
  refine ln rfl .no Fx.sn36 (.u rfl) ?_
  refine cp rfl .no (.u rfl) (.u rfl) rfl ?_
  refine mv rfl .no (.u rfl) ?_
  refine mv rfl (.f rfl rfl) (.u rfl) ?_
  refine mv rfl (.f rfl rfl) (.u rfl) ?_
  refine ln rfl (.f rfl rfl) Fx.sn36 (.s rfl) ?_
  refine arn (((f.length - 1) : Nat) : Int) rfl (.f rfl rfl) (.s rfl) (.u rfl) rfl (fun hc => by (try simp only [Bool.and_eq_true, decide_eq_true_eq, Bool.not_eq_true', Bool.or_eq_false_iff, decide_eq_false_iff_not] at hc); omega) (fun hc => wrap_i64 (by (try simp only [Bool.and_eq_true, decide_eq_true_eq, Bool.not_eq_true', Bool.or_eq_false_iff, decide_eq_false_iff_not] at hc); omega) (by (try simp only [Bool.and_eq_true, decide_eq_true_eq, Bool.not_eq_true', Bool.or_eq_false_iff, decide_eq_false_iff_not] at hc); omega)) ?_
  refine ih rfl (.f rfl rfl) Fx.se36 (.s rfl) (.s rfl) (fun hc => by (try simp only [Bool.and_eq_true, decide_eq_true_eq, Bool.not_eq_true', Bool.or_eq_false_iff, decide_eq_false_iff_not] at hc); omega) (fun hc => by (try simp only [Bool.and_eq_true, decide_eq_true_eq, Bool.not_eq_true', Bool.or_eq_false_iff, decide_eq_false_iff_not] at hc); omega) (fun hc => hs.nn (k := (f.length - 1)) (by (try simp only [Bool.and_eq_true, decide_eq_true_eq, Bool.not_eq_true', Bool.or_eq_false_iff, decide_eq_false_iff_not] at hc); omega)) ?_
  refine ld rfl (.f rfl rfl) Fx.ag5 (.s rfl) (fun hc => (hs.yat ((f.length - 1)) (by (try simp only [Bool.and_eq_true, decide_eq_true_eq, Bool.not_eq_true', Bool.or_eq_false_iff, decide_eq_false_iff_not] at hc); omega) (by (try simp only [Bool.and_eq_true, decide_eq_true_eq, Bool.not_eq_true', Bool.or_eq_false_iff, decide_eq_false_iff_not] at hc); omega)).rd) ?_
  refine cp rfl (.f rfl rfl) (.s rfl) (.u rfl) rfl ?_
  refine pkO rfl .no (.u rfl) (.s rfl) ?_
  refine mv rfl .no (.u rfl) ?_
  refine mv rfl (.f rfl rfl) (.u rfl) ?_
  refine mv rfl (.f rfl rfl) (.u rfl) ?_
  refine ln rfl (.f rfl rfl) Fx.sn36 (.s rfl) ?_
  refine arn (((f.length - 1) : Nat) : Int) rfl (.f rfl rfl) (.s rfl) (.u rfl) rfl (fun hc => by (try simp only [Bool.and_eq_true, decide_eq_true_eq, Bool.not_eq_true', Bool.or_eq_false_iff, decide_eq_false_iff_not] at hc); omega) (fun hc => wrap_i64 (by (try simp only [Bool.and_eq_true, decide_eq_true_eq, Bool.not_eq_true', Bool.or_eq_false_iff, decide_eq_false_iff_not] at hc); omega) (by (try simp only [Bool.and_eq_true, decide_eq_true_eq, Bool.not_eq_true', Bool.or_eq_false_iff, decide_eq_false_iff_not] at hc); omega)) ?_
  refine ih rfl (.f rfl rfl) Fx.se36 (.s rfl) (.s rfl) (fun hc => by (try simp only [Bool.and_eq_true, decide_eq_true_eq, Bool.not_eq_true', Bool.or_eq_false_iff, decide_eq_false_iff_not] at hc); omega) (fun hc => by (try simp only [Bool.and_eq_true, decide_eq_true_eq, Bool.not_eq_true', Bool.or_eq_false_iff, decide_eq_false_iff_not] at hc); omega) (fun hc => hs.nn (k := (f.length - 1)) (by (try simp only [Bool.and_eq_true, decide_eq_true_eq, Bool.not_eq_true', Bool.or_eq_false_iff, decide_eq_false_iff_not] at hc); omega)) ?_
  refine ld rfl (.f rfl rfl) Fx.ag5 (.s rfl) (fun hc => (hs.yat ((f.length - 1)) (by (try simp only [Bool.and_eq_true, decide_eq_true_eq, Bool.not_eq_true', Bool.or_eq_false_iff, decide_eq_false_iff_not] at hc); omega) (by (try simp only [Bool.and_eq_true, decide_eq_true_eq, Bool.not_eq_true', Bool.or_eq_false_iff, decide_eq_false_iff_not] at hc); omega)).rd) ?_
  refine cp rfl (.f rfl rfl) (.s rfl) (.u rfl) rfl ?_
  refine pkO rfl .no (.u rfl) (.s rfl) ?_
  refine .nil ?_
  refine .code ?_
  refine .cond rfl (fun c1 => ?_) (fun c1 => ?_)
  · have c1k := c1
    try simp only [decide_eq_true_eq, decide_eq_false_iff_not, Int.not_lt, Int.not_le, gt_iff_lt, ge_iff_le, Bool.or_eq_true, Bool.and_eq_true, Bool.or_eq_false_iff, Bool.and_eq_false_iff, Bool.not_eq_true', Bool.not_eq_false', Int.toNat_natCast, bne_iff_ne, beq_iff_eq, bne_eq_false_iff_eq, beq_eq_false_iff_ne, ne_eq] at c1
    refine .seq ?_
    refine Wk.rg [0] rfl rfl ?_
    refine asg rfl .no (.u rfl) ?_
    refine .nil ?_
    refine .code ?_
    refine .ret ?_
    refine We.fin0 Tryd.results35 (.tmp rfl .nil) ?_
    exact ⟨rfl, congrArg Value.bool (ma_head c1).symm⟩
  · have c1k := c1
    try simp only [decide_eq_true_eq, decide_eq_false_iff_not, Int.not_lt, Int.not_le, gt_iff_lt, ge_iff_le, Bool.or_eq_true, Bool.and_eq_true, Bool.or_eq_false_iff, Bool.and_eq_false_iff, Bool.not_eq_true', Bool.not_eq_false', Int.toNat_natCast, bne_iff_ne, beq_iff_eq, bne_eq_false_iff_eq, beq_eq_false_iff_ne, ne_eq] at c1
    refine .skip ?_
    refine .code ?_
    refine .seq ?_
    refine Wk.mixp ⟨false, false⟩ Fx.mix (by kernel_rfl) ?_
    refine Wp.one 0 (by kernel_rfl) ?_
    refine mv rfl .no (.u rfl) ?_
    refine .nil ?_
    refine Wp.one 1 (by kernel_rfl) ?_
    refine mv rfl .no (.u rfl) ?_
    refine .nil ?_
    refine Wp.one 2 (by kernel_rfl) ?_
    refine ln rfl .no Fx.sn36 (.u rfl) ?_
    refine .nil ?_
    refine Wp.one 3 (by kernel_rfl) ?_
    refine arn (((f.length - 1) : Nat) : Int) rfl .no (.u rfl) (.u rfl) rfl (fun _ => by omega) (fun _ => wrap_i64 (by omega) (by omega)) ?_
    refine .nil ?_
    refine Wp.one 4 (by kernel_rfl) ?_
    refine kE ((f.length - 1)) rfl .no Fx.se36 hs (.u rfl) (.u rfl) (fun _ => by omega) (fun _ => by omega) ?_
    intro h35 L35 eL35 lL35 hs35
    have lL35 := lL35 rfl
    refine .nil ?_
    refine Wp.one 5 (by kernel_rfl) ?_
    refine mv rfl .no (.u rfl) ?_
    refine .nil ?_
    refine Wp.one 6 (by kernel_rfl) ?_
    refine mv rfl .no (.u rfl) ?_
    refine .nil ?_
    refine Wp.one 7 (by kernel_rfl) ?_
    refine ln rfl .no Fx.sn36 (.u rfl) ?_
    refine .nil ?_
    refine Wp.one 8 (by kernel_rfl) ?_
    refine arn (((f.length - 1) : Nat) : Int) rfl .no (.u rfl) (.u rfl) rfl (fun _ => by omega) (fun _ => wrap_i64 (by omega) (by omega)) ?_
    refine .nil ?_
    refine Wp.one 9 (by kernel_rfl) ?_
    refine ih rfl .no Fx.se36 (.u rfl) (.u rfl) (fun _ => by omega) (fun _ => by omega) (fun _ => hs.nn (k := (f.length - 1)) (by omega)) ?_
    refine .nil ?_
    refine Wp.one 10 (by kernel_rfl) ?_
    refine ld rfl .no Fx.ag5 (.u rfl) (fun _ => (hs.yat ((f.length - 1)) (by omega) (by omega)).rd) ?_
    refine .nil ?_
    refine Wp.one 11 (by kernel_rfl) ?_
    refine asg rfl .no (.u rfl) ?_
    refine .nil ?_
    refine Wp.one 12 (by kernel_rfl) ?_
    refine asg rfl .no (.u rfl) ?_
    refine .nil ?_
    refine Wp.last (by kernel_rfl) ?_
    refine .code ?_
    refine .seq ?_
    refine Wk.rg [0, 1, 2, 3, 4] rfl rfl ?_
    refine mv rfl .no (.u rfl) ?_
    refine cvS rfl rfl Fx.sb9_36 (.u rfl) ?_; intro G43 h43 hG43 hs43
    have hs := hs.mono hG43
    have hs35 := hs35.mono hG43
    refine Go.Tan.b1 rfl Fx.se56 Fx.zv36 (.u rfl) rfl rfl (by decide) ?_; intro b44
    refine kp rfl .no Fx.go61 (Eva.cons (.u rfl) Eva.nil) (Gp.add .here Gp.nil) (fun _ hle hq => crc1_ok hle hs43 (by rw [yb_len]; omega)) ?_
    refine asg rfl .no (.u rfl) ?_
    refine .nil ?_
    refine .code ?_
    refine .seq ?_
    refine Wk.rg [0, 1, 2] rfl rfl ?_
    refine mv rfl .no (.u rfl) ?_
    refine kv rfl .no Fx.go62 (Eva.cons (.u rfl) (Eva.cons (.u rfl) Eva.nil)) (fun _ => rot_ok _ 15 _) ?_
    refine asg rfl .no (.u rfl) ?_
    refine .nil ?_
    refine .code ?_
    refine .seq ?_
    refine .seq ?_
    refine Wk.rg [0, 1] rfl rfl ?_
    refine mv rfl .no (.u rfl) ?_
    refine mv rfl .no (.u rfl) ?_
    refine .nil ?_
    refine .code ?_
    refine .block ?_
    refine Wk.lop (α := Nat) (fun k => [(7, true, U (hJ key k)), (49, true, V (BitVec.ofNat 8 k))]) (fun _ => [])
      (fun k Gl => (k ≤ (f.getD (f.length - 1) 0).toNat) ∧ (∀ j, j < k → bitY L35 (plcW key L35.length j) = true)) (fun k => (f.getD (f.length - 1) 0).toNat - k) 0 [(5, true, _), (8, true, _), (48, true, _)] [_]
      (ESub.cons rfl rfl (ESub.cons rfl rfl (ESub.cons rfl rfl (ESub.cons rfl rfl (ESub.cons rfl rfl ESub.nil)))))
      (MSub.cons .here rfl MSub.nil) ?_ ?_
    · refine ⟨?_, ?_⟩
      · (try dsimp only) <;> (first | omega | rfl | assumption | (simp; done))
      · (try dsimp only) <;> (exact fun j h => absurd h (Nat.not_lt_zero _))
    intro k N0 Gl0 hN0 hGl0 hF0
    try dsimp only at hF0 hN0 ⊢
    obtain ⟨hk2, hb⟩ := hF0
    have hs := hs.mono hGl0
    have hs35 := hs35.mono hGl0
    have hs43 := hs43.mono hGl0
    refine .seq ?_
    refine Wk.rg [0] rfl rfl ?_
    refine cp rfl .no (.u rfl) (.u rfl) rfl ?_
    refine .nil ?_
    refine .code ?_
    refine .seq ?_
    refine .cond rfl (fun c2 => ?_) (fun c2 => ?_)
    · have c2k := c2
      try simp only [decide_eq_true_eq, decide_eq_false_iff_not, Int.not_lt, Int.not_le, gt_iff_lt, ge_iff_le, Bool.or_eq_true, Bool.and_eq_true, Bool.or_eq_false_iff, Bool.and_eq_false_iff, Bool.not_eq_true', Bool.not_eq_false', Int.toNat_natCast, bne_iff_ne, beq_iff_eq, bne_eq_false_iff_eq, beq_eq_false_iff_ne, ne_eq] at c2
      refine .skip ?_
      refine .code ?_
      refine .seq ?_
      refine .block ?_
      refine .seq ?_
      refine Wk.rg [0, 1, 2, 3, 4, 5, 6] rfl rfl ?_
      refine mv rfl .no (.u rfl) ?_
      refine mv rfl .no (.u rfl) ?_
      refine ln rfl .no Fx.sn36 (.u rfl) ?_
      refine arn (((8 * L35.length) : Nat) : Int) rfl .no (.u rfl) (.u rfl) rfl (fun _ => by omega) (fun _ => wrap_i64 (by omega) (by omega)) ?_
      refine ci rfl .no rfl Fx.cv3_126 (.u rfl) ?_
      refine mw (k := .u32) (b := BitVec.ofInt 32 ((8 * L35.length : Nat) : Int)) rfl .no (.u rfl) (.u rfl) (fun _ => st_nz (by omega) (by omega)) ?_
      refine asg rfl .no (.u rfl) ?_
      refine .nil ?_
      refine .code ?_
      refine .seq ?_
      refine .seq ?_
      refine Wk.rg [0, 1, 2, 3, 4, 5, 6, 7, 8, 9] rfl rfl ?_
      refine mv rfl .no (.u rfl) ?_
      refine mv rfl .no (.u rfl) ?_
      refine rw' (k := .u32) rfl .no (.u rfl) (.u rfl) (fun _ => by decide) ?_
      have hp8 : (plcW key L35.length k >>> 3).toNat < L35.length := st_idx (by omega) (by omega)
      refine ih rfl .no Fx.se36 (.u rfl) (.u rfl) (fun _ => Int.natCast_nonneg _) (fun _ => Int.ofNat_lt.2 hp8) (fun _ => hs35.nn (k := (plcW key L35.length k >>> 3).toNat) (by omega)) ?_
      refine ld rfl .no Fx.ag5 (.u rfl) (fun _ => (hs35.yat (plcW key L35.length k >>> 3).toNat rfl hp8).rd) ?_
      refine mv rfl .no (.u rfl) ?_
      refine bw (k := .u32) (b := 7#32) rfl .no rfl (.u rfl) (.u rfl) rfl ?_
      refine rw' (k := .u8) rfl .no (.u rfl) (.u rfl) (fun _ => Int.natCast_nonneg _) ?_
      refine bw (k := .u8) (b := 1#8) rfl .no rfl (.u rfl) (.u rfl) rfl ?_
      refine cp rfl .no (.u rfl) (.u rfl) rfl ?_
      refine .nil ?_
      refine .code ?_
      refine .cond rfl (fun c3 => ?_) (fun c3 => ?_)
      · have c3k := c3
        try simp only [decide_eq_true_eq, decide_eq_false_iff_not, Int.not_lt, Int.not_le, gt_iff_lt, ge_iff_le, Bool.or_eq_true, Bool.and_eq_true, Bool.or_eq_false_iff, Bool.and_eq_false_iff, Bool.not_eq_true', Bool.not_eq_false', Int.toNat_natCast, bne_iff_ne, beq_iff_eq, bne_eq_false_iff_eq, beq_eq_false_iff_ne, ne_eq] at c3
        refine .seq ?_
        refine Wk.rg [0] rfl rfl ?_
        refine asg rfl .no (.u rfl) ?_
        refine .nil ?_
        refine .code ?_
        refine .ret ?_
        refine We.fin0 Tryd.results35 (.tmp rfl .nil) ?_
        exact ⟨rfl, congrArg Value.bool (ma_no c1 eL35 hk2 c2 c3).symm⟩
      · have c3k := c3
        try simp only [decide_eq_true_eq, decide_eq_false_iff_not, Int.not_lt, Int.not_le, gt_iff_lt, ge_iff_le, Bool.or_eq_true, Bool.and_eq_true, Bool.or_eq_false_iff, Bool.and_eq_false_iff, Bool.not_eq_true', Bool.not_eq_false', Int.toNat_natCast, bne_iff_ne, beq_iff_eq, bne_eq_false_iff_eq, beq_eq_false_iff_ne, ne_eq] at c3
        refine .skip ?_
        refine .code ?_
        refine Wk.rg [0, 1, 2, 3] rfl rfl ?_
        refine mv rfl .no (.u rfl) ?_
        refine mv rfl .no (.u rfl) ?_
        refine bw (k := .u32) rfl .no rfl (.u rfl) (.u rfl) rfl ?_
        refine asg rfl .no (.u rfl) ?_
        refine .nil ?_
        refine .blk ?_
        refine .code ?_
        refine Wk.rg [0, 1] rfl rfl ?_
        refine bw (k := .u8) (b := 1#8) rfl .no rfl (.u rfl) (.u rfl) rfl ?_
        refine mv rfl .no (.u rfl) ?_
        refine .nil ?_
        refine We.lpo (k + 1) ?_ ?_ ?_ ?_ ?_
        · exact (ESub.cons rfl rfl (ESub.cons rfl (by show V (BitVec.ofNat 8 k + 1#8) = _; rw [← BitVec.ofNat_add]) (ESub.cons rfl rfl (ESub.cons rfl rfl (ESub.cons rfl rfl ESub.nil)))))
        · exact (MSub.cons .here rfl MSub.nil)
        · have := ma_dec hk2 c2; omega
        · exact hGl0
        · refine ⟨?_, ?_⟩
          · (try dsimp only) <;> (exact ma_lt hk2 c2)
          · (try dsimp only) <;> (exact ma_snoc hb c3k)
    · have c2k := c2
      try simp only [decide_eq_true_eq, decide_eq_false_iff_not, Int.not_lt, Int.not_le, gt_iff_lt, ge_iff_le, Bool.or_eq_true, Bool.and_eq_true, Bool.or_eq_false_iff, Bool.and_eq_false_iff, Bool.not_eq_true', Bool.not_eq_false', Int.toNat_natCast, bne_iff_ne, beq_iff_eq, bne_eq_false_iff_eq, beq_eq_false_iff_ne, ne_eq] at c2
      refine .exit ?_
      refine .xcode ?_
      refine .xlp ?_
      refine .xblk ?_
      refine .code ?_
      refine .seq ?_
      refine Wk.rg [0] rfl rfl ?_
      refine asg rfl .no (.u rfl) ?_
      refine .nil ?_
      refine .code ?_
      refine .ret ?_
      refine We.fin0 Tryd.results35 (.tmp rfl .nil) ?_
      exact ⟨rfl, congrArg Value.bool (ma_yes c1 eL35 hk2 c2 hb).symm⟩

theorem make_ok (h : Sh) (l : List ByteArray) (bits : Int) (G : PM) (hs : SlR G 1 encT h l) (hl : l.length ≤ 100000) (hk : ∀ s ∈ l, s.size ≤ 1000000) : Ct Tryd.prog 29 ([h.val l.length, .int .i64 bits] : List Value).toArray G [] (PR 5 (fun L => L = makeB l bits)) := by
  refine Ct.of Tryd.func29 rfl Tryd.ntmps29 rfl fun w0 hs0 => ?_
  have hp := hpb bits; have hpl := perB_le bits; have hr := hprb bits; have hrl := prbB_le bits
  have hm : l.length * perB bits ≤ 6400000 := Nat.le_trans (Nat.mul_le_mul hl hpl.2) (by decide)
  refine .seq ?_
  refine Wk.rg [0] rfl rfl ?_
  refine asg rfl .no (.u rfl) ?_
  refine .nil ?_
  refine .code ?_
  refine .seq ?_
  refine Wk.rg [0, 1, 2, 3] rfl rfl ?_
  refine mv rfl .no (.u rfl) ?_
  refine mI rfl .no (.u rfl) (.u rfl) ?_
  refine mA rfl .no (.u rfl) (.u rfl) ?_
  refine asg rfl .no (.u rfl) ?_
  refine .nil ?_
  refine .code ?_
  refine .seq ?_
  rw [← hp]
  refine Wk.rg [0, 1, 2, 3, 4, 5] rfl rfl ?_
  refine mv rfl .no (.u rfl) ?_
  refine arn ((((perB bits) * 69) : Nat) : Int) rfl .no (.u rfl) (.u rfl) rfl (fun _ => by omega) (fun _ => wrap_i64 (by omega) (by omega)) ?_
  refine qun (((perB bits) * 69)) (100) rfl .no (.u rfl) (.u rfl) (fun _ => by omega) (fun _ => by omega) (fun _ => by first | decide | omega) (fun _ => by omega) ?_
  refine mIn ((((perB bits) * 69) / 100)) (30) rfl .no (.u rfl) (.u rfl) (fun _ => by omega) (fun _ => by omega) ?_
  refine mAn (1) ((min (((perB bits) * 69) / 100) 30)) rfl .no (.u rfl) (.u rfl) (fun _ => by omega) (fun _ => by omega) ?_
  refine asg rfl .no (.u rfl) ?_
  refine .nil ?_
  refine .code ?_
  refine .seq ?_
  rw [show max 1 (min (perB bits * 69 / 100) 30) = prbB bits from rfl]
  refine Wk.rg [0, 1, 2, 3, 4, 5, 6, 7, 8, 9, 10, 11, 12, 13, 14] rfl rfl ?_
  refine mv rfl .no (.u rfl) ?_
  refine ln rfl .no Fx.sn74 (.u rfl) ?_
  refine mv rfl .no (.u rfl) ?_
  refine arn (((l.length * perB bits) : Nat) : Int) rfl .no (.u rfl) (.u rfl) rfl (fun _ => rfl) (fun _ => wrap_i64 (by omega) (by omega)) ?_
  refine mAn (64) ((l.length * perB bits)) rfl .no (.u rfl) (.u rfl) (fun _ => by omega) (fun _ => by omega) ?_
  refine arn ((((max 64 (l.length * perB bits)) + 7) : Nat) : Int) rfl .no (.u rfl) (.u rfl) rfl (fun _ => by omega) (fun _ => wrap_i64 (by omega) (by omega)) ?_
  refine qun (((max 64 (l.length * perB bits)) + 7)) (8) rfl .no (.u rfl) (.u rfl) (fun _ => by omega) (fun _ => by omega) (fun _ => by first | decide | omega) (fun _ => by omega) ?_
  refine mv rfl .no (.u rfl) ?_
  refine ln rfl .no Fx.sn74 (.u rfl) ?_
  refine mv rfl .no (.u rfl) ?_
  refine arn (((l.length * perB bits) : Nat) : Int) rfl .no (.u rfl) (.u rfl) rfl (fun _ => rfl) (fun _ => wrap_i64 (by omega) (by omega)) ?_
  refine qun ((l.length * perB bits)) (8) rfl .no (.u rfl) (.u rfl) (fun _ => by omega) (fun _ => by omega) (fun _ => by first | decide | omega) (fun _ => by omega) ?_
  refine arn (((((l.length * perB bits) / 8) + 10) : Nat) : Int) rfl .no (.u rfl) (.u rfl) rfl (fun _ => by omega) (fun _ => wrap_i64 (by omega) (by omega)) ?_
  refine mkY ((((max 64 (l.length * perB bits)) + 7) / 8)) ((((l.length * perB bits) / 8) + 10)) rfl Fx.se36 Fx.zv5 (.u rfl) (.u rfl) (by first | rfl | omega) (by first | rfl | omega) (by omega) (by omega) ?_; intro b30
  have lR30 : (List.replicate ((((max 64 (l.length * perB bits)) + 7) / 8)) (0#8 : Y)).length = (((max 64 (l.length * perB bits)) + 7) / 8) := List.length_replicate
  refine asg rfl .no (.u rfl) ?_
  refine .nil ?_
  refine .code ?_
  refine .seq ?_
  refine .seq ?_
  refine Wk.rg [0, 1, 2] rfl rfl ?_
  refine mv rfl .no (.u rfl) ?_
  refine ln rfl .no Fx.sn74 (.u rfl) ?_
  refine mv rfl .no (.u rfl) ?_
  refine .nil ?_
  refine .code ?_
  refine .block ?_
  refine Wk.lop (α := Nat × List Y) (fun gh => [(33, true, .int .i64 (gh.1 : Int))]) (fun gh => [rB (.slice (some ⟨b30, 0, none⟩) ((max 64 (l.length * perB bits) + 7) / 8 : Nat) (l.length * perB bits / 8 + 10 : Nat)) 5 gh.2])
    (fun gh Gl => (gh.1 ≤ l.length) ∧ (gh.2 = keysB l bits gh.1)) (fun gh => l.length - gh.1) (0, _) [(5, true, _), (6, true, _), (31, true, _), (32, true, _)] []
    (ESub.cons rfl (by first | rfl | exact evi (by omega)) (ESub.cons rfl rfl (ESub.cons rfl rfl (ESub.cons rfl rfl (ESub.cons rfl rfl ESub.nil)))))
    (MSub.cons .here rfl MSub.nil) ?_ ?_
  · refine ⟨?_, ?_⟩
    · (try dsimp only) <;> (first | omega | rfl | assumption | (simp; done))
    · (try dsimp only) <;> (rfl)
  intro gh N0 Gl0 hN0 hGl0 hF0
  obtain ⟨k, M⟩ := gh; dsimp only at hF0 hN0 ⊢
  obtain ⟨hk2, eM⟩ := hF0
  have hs := hs.mono hGl0
  have lM : M.length = (max 64 (l.length * perB bits) + 7) / 8 := by rw [eM, keysB_len]
  refine .seq ?_
  refine Wk.rg [0] rfl rfl ?_
  refine cp rfl .no (.u rfl) (.u rfl) rfl ?_
  refine .nil ?_
  refine .code ?_
  refine .seq ?_
  refine .cond rfl (fun c1 => ?_) (fun c1 => ?_)
  · have c1k := c1
    try simp only [decide_eq_true_eq, decide_eq_false_iff_not, Int.not_lt, Int.not_le, gt_iff_lt, ge_iff_le, Bool.or_eq_true, Bool.and_eq_true, Bool.or_eq_false_iff, Bool.not_eq_true', Bool.not_eq_false', Int.toNat_natCast, bne_iff_ne, beq_iff_eq, bne_eq_false_iff_eq, beq_eq_false_iff_ne, ne_eq] at c1
    refine .skip ?_
    refine .code ?_
    refine .seq ?_
    refine .block ?_
    refine .seq ?_
    refine Wk.rg [0, 1, 2] rfl rfl ?_
    refine ih rfl .no Fx.se74 (.u rfl) (.u rfl) (fun _ => by omega) (fun _ => by omega) (fun _ => hs.nn (k := k) (by first | omega | (simp only [Bool.and_eq_true, decide_eq_true_eq] at hc; omega) | (simp only [List.length_cons, List.length_nil]; omega))) ?_
    obtain ⟨s, es⟩ := getx (k := k) (xs := l) (by omega)
    refine ld rfl .no Fx.ag9 (.u rfl) (fun _ => (hs.t1 k (by omega) es).rd) ?_
    refine asg rfl .no (.u rfl) ?_
    refine .nil ?_
    refine .code ?_
    refine Wk.rg [0, 1, 2, 3] rfl rfl ?_
    refine mv rfl .no (.u rfl) ?_
    refine mv rfl .no (.u rfl) ?_
    refine mv rfl .no (.u rfl) ?_
    refine ka rfl (.inr rfl) Fx.go52 (Eva.cons (.u rfl) (Eva.cons (.u rfl) (Eva.cons (.u rfl) Eva.nil))) (mtk1 .here) (set_ok M b30 _ _ lM.symm s (prbB bits) _ (by omega) (by omega) (Nat.le_trans (hk s (List.mem_of_getElem? es)) (by decide)) (by omega)) ?_
    rintro _ G40 μ40 hG40 ⟨rfl, rfl⟩
    have hs := hs.mono hG40
    refine .nil ?_
    refine .blk ?_
    refine .code ?_
    refine Wk.rg [0, 1] rfl rfl ?_
    refine arn (((k + 1) : Nat) : Int) rfl .no (.u rfl) (.u rfl) rfl (fun _ => by omega) (fun _ => wrap_i64 (by omega) (by omega)) ?_
    refine mv rfl .no (.u rfl) ?_
    refine .nil ?_
    refine We.lpo (k + 1, setL s M (prbB bits)) ?_ ?_ ?_ ?_ ?_
    · exact (ESub.cons rfl (by first | rfl | exact evi (by omega)) (ESub.cons rfl rfl (ESub.cons rfl rfl (ESub.cons rfl rfl (ESub.cons rfl rfl ESub.nil)))))
    · exact (MSub.cons .here rfl MSub.nil)
    · first | omega | (dsimp only; omega)
    · exact (hGl0).trans hG40
    · refine ⟨?_, ?_⟩
      · (try dsimp only) <;> (first | omega | rfl | assumption | (simp; done))
      · (try dsimp only) <;> (rw [eM, keysB_snoc es])
  · have c1k := c1
    try simp only [decide_eq_true_eq, decide_eq_false_iff_not, Int.not_lt, Int.not_le, gt_iff_lt, ge_iff_le, Bool.or_eq_true, Bool.and_eq_true, Bool.or_eq_false_iff, Bool.not_eq_true', Bool.not_eq_false', Int.toNat_natCast, bne_iff_ne, beq_iff_eq, bne_eq_false_iff_eq, beq_eq_false_iff_ne, ne_eq] at c1
    refine .exit ?_
    refine .xcode ?_
    refine .xlp ?_
    refine .xblk ?_
    refine .code ?_
    refine .seq ?_
    refine Wk.rg [0, 1, 2, 3, 4, 5] rfl rfl ?_
    refine mv rfl .no (.u rfl) ?_
    refine mv rfl .no (.u rfl) ?_
    refine ci rfl .no rfl Fx.cv3_5 (.u rfl) ?_
    refine Go.Tan.b1 rfl Fx.se36 Fx.zv5 (.u rfl) rfl rfl (by decide) ?_; intro b45
    refine apY rfl Fx.se36 Fx.zv5 (.u rfl) (.u rfl) (.there .here) (Sc.one .here) (by show _ + 1 ≤ _; omega) ?_
    intro v46 L46 ov46 eL46
    have lL46 : L46.length = M.length + 1 := by rw [eL46, List.length_append]; first | rfl | simp [yl_len]
    refine asg rfl .no (.u rfl) ?_
    refine .nil ?_
    refine .code ?_
    refine .ret ?_
    refine We.fin Tryd.results29 (.tmp rfl .nil) (MSub.cons .here rfl MSub.nil) ?_
    obtain rfl : k = l.length := by omega
    exact ⟨_, by rw [eL46, eM]; rfl, rfl⟩

end Go.Proofs.YtbdnclpopappeaaDoor

namespace Go.Proofs.YtbdnclpopappeaaDoor
set_option linter.unusedSimpArgs false
set_option linter.unusedVariables false
open Go.Tan Go.RowKit


end Go.Proofs.YtbdnclpopappeaaDoor

namespace Go.Proofs.YtbdnclpopappeaaDoor
set_option linter.unusedSimpArgs false
set_option linter.unusedVariables false
open Go.Tan Go.RowKit

namespace FxVerR
theorem se36 : slE Tryd.prog 36 = some (5, 1, 1) := by kernel_rfl
theorem zv5 : (Tryd.prog.info? 5).bind (·.zero) = some (.int .u8 0) := by kernel_rfl
theorem cv24_5 : cvK Tryd.prog 24 5 = some .u8 := by kernel_rfl
theorem cv3_24 : cvK Tryd.prog 3 24 = some .u64 := by kernel_rfl
theorem sn36 : (slE Tryd.prog 36).isSome = true := by kernel_rfl
theorem ag5 : aggN Tryd.prog 5 = some none := by kernel_rfl
theorem cv5_24 : cvK Tryd.prog 5 24 = some .u64 := by kernel_rfl
end FxVerR
namespace Fx
theorem st9 : strT Tryd.prog 9 = true := by kernel_rfl
theorem go31 : goFn Tryd.prog 31 = true := by kernel_rfl
end Fx
theorem Num_ok (xs : List Y) (h : Sh) (G : PM) (hs : SlR G 1 encY h xs) (n : BitVec 64) (hl : xs.length ≤ 100000000000000) : Ct Tryd.prog 31 ([h.val xs.length, uv .u64 n] : List Value).toArray G [] (PR 5 (fun L => L = xs ++ numN n.toNat)) := by
  refine Ct.of Tryd.func31 rfl Tryd.ntmps31 rfl fun w0 hs0 => ?_
  have ln := num_len10 n.isLt
  refine .seq ?_
  refine Wk.rg [0] rfl rfl ?_
  refine asg rfl .no (.u rfl) ?_
  refine .nil ?_
  refine .code ?_
  refine .seq ?_
  refine Wk.rg [0, 1, 2, 3] rfl rfl ?_
  refine b0B rfl FxVerR.se36 ?_; intro b6
  refine mv rfl .no (.u rfl) ?_
  refine apY0 rfl FxVerR.se36 FxVerR.zv5 (.u rfl) (.u rfl) .here hs.sc (by (try simp only [List.length_append, List.length_cons, List.length_nil, yl_len]); omega) ?_
  intro v8 L8 _ ov8 eL8
  have lL8 : L8.length = xs.length := by rw [eL8]
  refine asg rfl .no (.u rfl) ?_
  refine .nil ?_
  refine .code ?_
  refine .seq ?_
  refine .block ?_
  refine Wk.lop (α := BitVec 64 × Value × List Y) (fun gh => [(1, true, uv .u64 gh.1), (5, true, gh.2.1)]) (fun gh => [rB gh.2.1 5 gh.2.2])
    (fun gh Gl => (gh.2.2 ++ numN gh.1.toNat = xs ++ numN n.toNat)) (fun gh => gh.1.toNat) (n, v8, L8) [] []
    (ESub.cons rfl rfl (ESub.cons rfl rfl ESub.nil))
    (MSub.cons .here rfl MSub.nil) ?_ ?_
  · (try dsimp only) <;> (rw [eL8])
  intro gh N0 Gl0 hN0 hGl0 hF0
  obtain ⟨m, v, L⟩ := gh; dsimp only at hF0 hN0 ⊢
  have eq := hF0
  have hs := hs.mono hGl0
  have tq : @BitVec.toNat IntKind.u64.bits m = m.toNat := rfl
  have lq := congrArg List.length eq
  simp only [List.length_append] at lq
  have lp := num_pos m.toNat
  refine .seq ?_
  refine .seq ?_
  refine Wk.rg [0, 1] rfl rfl ?_
  refine mv rfl .no (.u rfl) ?_
  refine cp rfl .no (.u rfl) (.u rfl) rfl ?_
  refine .nil ?_
  refine .code ?_
  refine .cond rfl (fun c1 => ?_) (fun c1 => ?_)
  · have c1k := c1
    try simp only [decide_eq_true_eq, decide_eq_false_iff_not, Int.not_lt, Int.not_le, gt_iff_lt, ge_iff_le, Bool.or_eq_true, Bool.and_eq_true, Bool.or_eq_false_iff, Bool.and_eq_false_iff, Bool.not_eq_true', Bool.not_eq_false', Int.toNat_natCast, bne_iff_ne, beq_iff_eq, bne_eq_false_iff_eq, beq_eq_false_iff_ne, ne_eq] at c1
    refine .skip ?_
    refine .code ?_
    refine .seq ?_
    refine .block ?_
    refine Wk.rg [0, 1, 2, 3, 4, 5, 6] rfl rfl ?_
    refine mv rfl .no (.u rfl) ?_
    refine mv rfl .no (.u rfl) ?_
    refine cu (k := .u64) rfl .no rfl FxVerR.cv24_5 (.u rfl) ?_
    refine bw (k := .u8) (b := 128#8) rfl .no rfl (.u rfl) (.u rfl) rfl ?_
    refine Go.Tan.b1 rfl FxVerR.se36 FxVerR.zv5 (.u rfl) rfl rfl (by decide) ?_; intro b17
    refine apY rfl FxVerR.se36 FxVerR.zv5 (.u rfl) (.u rfl) (.there .here) (Sc.one .here) (by show _ + 1 ≤ _; omega) ?_
    intro v18 L18 ov18 eL18
    have lL18 : L18.length = L.length + 1 := by rw [eL18, List.length_append]; first | rfl | simp [yl_len]
    refine asg rfl .no (.u rfl) ?_
    refine .nil ?_
    refine .blk ?_
    refine .code ?_
    refine Wk.rg [0, 1, 2] rfl rfl ?_
    refine mv rfl .no (.u rfl) ?_
    refine rw' (k := .u64) rfl .no (.u rfl) (.u rfl) (fun _ => by decide) ?_
    refine asg rfl .no (.u rfl) ?_
    refine .nil ?_
    refine We.lpo (m >>> 7, v18, L18) ?_ ?_ ?_ ?_ ?_
    · exact (ESub.cons rfl rfl (ESub.cons rfl rfl ESub.nil))
    · exact (MSub.cons .here rfl MSub.nil)
    · (dsimp only; rw [shr7]; omega)
    · exact hGl0
    · (try dsimp only) <;> (rw [eL18, ← eq, num_more (m := m) (by omega), List.append_assoc]; rfl)
  · have c1k := c1
    try simp only [decide_eq_true_eq, decide_eq_false_iff_not, Int.not_lt, Int.not_le, gt_iff_lt, ge_iff_le, Bool.or_eq_true, Bool.and_eq_true, Bool.or_eq_false_iff, Bool.and_eq_false_iff, Bool.not_eq_true', Bool.not_eq_false', Int.toNat_natCast, bne_iff_ne, beq_iff_eq, bne_eq_false_iff_eq, beq_eq_false_iff_ne, ne_eq] at c1
    refine .exit ?_
    refine .xcode ?_
    refine .xlp ?_
    refine .xblk ?_
    refine .code ?_
    refine .seq ?_
    refine Wk.rg [0, 1, 2, 3, 4, 5] rfl rfl ?_
    refine mv rfl .no (.u rfl) ?_
    refine mv rfl .no (.u rfl) ?_
    refine cu (k := .u64) rfl .no rfl FxVerR.cv24_5 (.u rfl) ?_
    refine Go.Tan.b1 rfl FxVerR.se36 FxVerR.zv5 (.u rfl) rfl rfl (by decide) ?_; intro b22
    refine apY rfl FxVerR.se36 FxVerR.zv5 (.u rfl) (.u rfl) (.there .here) (Sc.one .here) (by show _ + 1 ≤ _; omega) ?_
    intro v23 L23 ov23 eL23
    have lL23 : L23.length = L.length + 1 := by rw [eL23, List.length_append]; first | rfl | simp [yl_len]
    refine asg rfl .no (.u rfl) ?_
    refine .nil ?_
    refine .code ?_
    refine .ret ?_
    refine We.fin Tryd.results31 (.tmp rfl .nil) (MSub.cons .here rfl MSub.nil) ?_
    exact ⟨L23, by rw [eL23, ← eq, num_last (m := m) (by omega)]; rfl, rfl⟩

theorem Num_i (xs : List Y) (h : Sh) (G : PM) (hs : SlR G 1 encY h xs) (x : Int) (hx : u64 x) (hl : xs.length ≤ 100000000000000) : Ct Tryd.prog 31 ([h.val xs.length, .int .u64 x] : List Value).toArray G [] (PR 5 (fun L => L = xs ++ numN x.toNat)) := by
  rw [uvI hx, ← ofI hx]; exact Num_ok xs h G hs _ hl
theorem Str_ok (xs : List Y) (h : Sh) (G : PM) (hs : SlR G 1 encY h xs) (s : ByteArray) (hl : xs.length + s.size ≤ 100000000000000) : Ct Tryd.prog 27 ([h.val xs.length, .string s] : List Value).toArray G [] (PR 5 (fun L => L = xs ++ strL (yb s))) := by
  refine Ct.of Tryd.func27 rfl Tryd.ntmps27 rfl fun w0 hs0 => ?_
  have ly := yb_len s
  have ln := num_len10 (n := s.size) (by omega)
  refine .seq ?_
  refine Wk.rg [0] rfl rfl ?_
  refine asg rfl .no (.u rfl) ?_
  refine .nil ?_
  refine .code ?_
  refine .seq ?_
  refine Wk.rg [0, 1, 2, 3, 4, 5, 6, 7] rfl rfl ?_
  refine mv rfl .no (.u rfl) ?_
  refine mv rfl .no (.u rfl) ?_
  refine ls rfl .no Fx.st9 (.u rfl) ?_
  refine cw rfl .no FxVerR.cv3_24 (.u rfl) (fun _ => wrap_u64 (by omega) (by omega)) ?_
  refine kc rfl Fx.go31 (Eva.cons (.u rfl) (Eva.cons (.u rfl) Eva.nil)) (Ct.rowc (Num_i xs h _ hs (s.size : Int) ⟨by omega, by omega⟩ (by omega))) ?_
  rintro v9 G9 μ9 hG9 ⟨L9, ov9, eL9, rfl⟩
  have hs := hs.mono hG9
  refine mv rfl .no (.u rfl) ?_
  have l9 : L9.length = xs.length + (numN s.size).length := by rw [eL9, List.length_append, Int.toNat_natCast]
  refine apT rfl FxVerR.se36 Fx.st9 FxVerR.zv5 (.u rfl) (.u rfl) .here (by (try simp only [List.length_append]); omega) ?_; intro v11 L11 ov11 eL11
  refine asg rfl .no (.u rfl) ?_
  refine .nil ?_
  refine .code ?_
  refine .ret ?_
  refine We.fin Tryd.results27 (.tmp rfl .nil) (MSub.cons .here rfl MSub.nil) ?_
  exact ⟨L11, by rw [eL11, eL9, strL, ly, Int.toNat_natCast, List.append_assoc], rfl⟩

theorem number_ok (xs : List Y) (h : Sh) (G : PM) (hs : SlR G 1 encY h xs) (hl : xs.length ≤ 100000000000000) : Ct Tryd.prog 74 ([h.val xs.length] : List Value).toArray G [] (fun _ μ' u => ∃ n k e, NumR xs n k e ∧ μ' = [] ∧ u = .tuple #[.int .u64 (n : Int), .int .i64 (k : Int), .int .i64 e]) := by
  refine Ct.of Tryd.func74 rfl Tryd.ntmps74 rfl fun w0 hs0 => ?_
  refine .seq ?_
  refine Wk.rg [0, 1, 2] rfl rfl ?_
  refine asg rfl .no (.u rfl) ?_
  refine asg rfl .no (.u rfl) ?_
  refine asg rfl .no (.u rfl) ?_
  refine .nil ?_
  refine .code ?_
  refine .seq ?_
  refine Wk.rg [0] rfl rfl ?_
  refine asg rfl .no (.u rfl) ?_
  refine .nil ?_
  refine .code ?_
  refine .seq ?_
  refine .seq ?_
  refine Wk.rg [0, 1, 2] rfl rfl ?_
  refine mv rfl .no (.u rfl) ?_
  refine ln rfl .no FxVerR.sn36 (.u rfl) ?_
  refine mv rfl .no (.u rfl) ?_
  refine .nil ?_
  refine .code ?_
  refine .block ?_
  refine Wk.lop (α := Nat × BitVec 64) (fun gh => [(5, true, uv .u64 gh.2), (10, true, .int .i64 (gh.1 : Int))]) (fun _ => [])
    (fun gh Gl => (gh.1 ≤ xs.length) ∧ (gh.1 ≤ 9) ∧ (gh.2.toNat < 128 ^ gh.1) ∧ (numP xs = numG gh.1 gh.2.toNat (xs.drop gh.1))) (fun gh => xs.length - gh.1) (0, 0#64) [(8, true, _), (9, true, _)] []
    (ESub.cons rfl rfl (ESub.cons rfl (by first | rfl | exact evi (by omega)) (ESub.cons rfl rfl (ESub.cons rfl rfl ESub.nil))))
    MSub.nil ?_ ?_
  · refine ⟨?_, ?_, ?_, ?_⟩
    · (try dsimp only) <;> (first | omega | rfl | assumption | (simp; done))
    · (try dsimp only) <;> (first | omega | rfl | assumption | (simp; done))
    · (try dsimp only) <;> (decide)
    · (try dsimp only) <;> (rfl)
  intro gh N0 Gl0 hN0 hGl0 hF0
  obtain ⟨k, w⟩ := gh; dsimp only at hF0 hN0 ⊢
  obtain ⟨hk, h9, hw, e⟩ := hF0
  have hs := hs.mono hGl0
  have tq : @BitVec.toNat IntKind.u8.bits (xs.getD k 0) = (xs.getD k 0).toNat := rfl
  refine .seq ?_
  refine Wk.rg [0] rfl rfl ?_
  refine cp rfl .no (.u rfl) (.u rfl) rfl ?_
  refine .nil ?_
  refine .code ?_
  refine .seq ?_
  refine .cond rfl (fun c1 => ?_) (fun c1 => ?_)
  · have c1k := c1
    try simp only [decide_eq_true_eq, decide_eq_false_iff_not, Int.not_lt, Int.not_le, gt_iff_lt, ge_iff_le, Bool.or_eq_true, Bool.and_eq_true, Bool.or_eq_false_iff, Bool.and_eq_false_iff, Bool.not_eq_true', Bool.not_eq_false', Int.toNat_natCast, bne_iff_ne, beq_iff_eq, bne_eq_false_iff_eq, beq_eq_false_iff_ne, ne_eq] at c1
    refine .skip ?_
    refine .code ?_
    refine .seq ?_
    refine .block ?_
    refine .seq ?_
    refine Wk.rg [0, 1, 2, 3, 4] rfl rfl ?_
    refine mv rfl .no (.u rfl) ?_
    refine ih rfl .no FxVerR.se36 (.u rfl) (.u rfl) (fun _ => by omega) (fun _ => by omega) (fun _ => hs.nn (k := k) (by omega)) ?_
    refine ld rfl .no FxVerR.ag5 (.u rfl) (fun _ => (hs.yat (k) (by omega) (by omega)).rd) ?_
    refine asg rfl .no (.u rfl) ?_
    refine asg rfl .no (.u rfl) ?_
    refine .nil ?_
    refine .code ?_
    refine .seq ?_
    refine .seq ?_
    refine Wk.rg [0, 1, 2, 3, 4, 5] rfl rfl ?_
    refine mv rfl .no (.u rfl) ?_
    refine cp rfl .no (.u rfl) (.u rfl) rfl ?_
    refine mv rfl .no (.u rfl) ?_
    refine mv rfl (.t rfl rfl) (.u rfl) ?_
    refine cp rfl (.t rfl rfl) (.s rfl) (.u rfl) rfl ?_
    refine pkA rfl .no (.u rfl) (.s rfl) ?_
    refine .nil ?_
    refine .code ?_
    refine .cond rfl (fun c2 => ?_) (fun c2 => ?_)
    · have c2k := c2
      try simp only [decide_eq_true_eq, decide_eq_false_iff_not, Int.not_lt, Int.not_le, gt_iff_lt, ge_iff_le, Bool.or_eq_true, Bool.and_eq_true, Bool.or_eq_false_iff, Bool.and_eq_false_iff, Bool.not_eq_true', Bool.not_eq_false', Int.toNat_natCast, bne_iff_ne, beq_iff_eq, bne_eq_false_iff_eq, beq_eq_false_iff_ne, ne_eq] at c2
      refine .seq ?_
      refine Wk.rg [0, 1, 2] rfl rfl ?_
      refine asg rfl .no (.u rfl) ?_
      refine asg rfl .no (.u rfl) ?_
      refine asg rfl .no (.u rfl) ?_
      refine .nil ?_
      refine .code ?_
      refine .ret ?_
      refine We.fin0 Tryd.results74 (.tmp rfl (.tmp rfl (.tmp rfl .nil))) ?_
      exact ⟨0, 0, 11, .of (np_form e (by omega) (by omega) (by omega)), rfl, rfl⟩
    · have c2k := c2
      try simp only [decide_eq_true_eq, decide_eq_false_iff_not, Int.not_lt, Int.not_le, gt_iff_lt, ge_iff_le, Bool.or_eq_true, Bool.and_eq_true, Bool.or_eq_false_iff, Bool.and_eq_false_iff, Bool.not_eq_true', Bool.not_eq_false', Int.toNat_natCast, bne_iff_ne, beq_iff_eq, bne_eq_false_iff_eq, beq_eq_false_iff_ne, ne_eq] at c2
      refine .skip ?_
      refine .code ?_
      refine .seq ?_
      refine Wk.rg [0, 1, 2, 3, 4, 5, 6, 7, 8] rfl rfl ?_
      refine mv rfl .no (.u rfl) ?_
      refine mv rfl .no (.u rfl) ?_
      refine bw (k := .u8) (b := 127#8) rfl .no rfl (.u rfl) (.u rfl) rfl ?_
      refine cu (k := .u8) rfl .no rfl FxVerR.cv5_24 (.u rfl) ?_
      refine mv rfl .no (.u rfl) ?_
      refine arn (((7 * k) : Nat) : Int) rfl .no (.u rfl) (.u rfl) rfl (fun _ => by omega) (fun _ => wrap_i64 (by omega) (by omega)) ?_
      refine lw (k := .u64) rfl .no rfl (.u rfl) (.u rfl) (fun _ => by omega) ?_
      refine bw (k := .u64) rfl .no rfl (.u rfl) (.u rfl) rfl ?_
      refine asg rfl .no (.u rfl) ?_
      refine .nil ?_
      refine .code ?_
      refine .seq ?_
      refine Wk.rg [0, 1] rfl rfl ?_
      refine mv rfl .no (.u rfl) ?_
      refine cp rfl .no (.u rfl) (.u rfl) rfl ?_
      refine .nil ?_
      refine .code ?_
      refine .cond rfl (fun c3 => ?_) (fun c3 => ?_)
      · have c3k := c3
        try simp only [decide_eq_true_eq, decide_eq_false_iff_not, Int.not_lt, Int.not_le, gt_iff_lt, ge_iff_le, Bool.or_eq_true, Bool.and_eq_true, Bool.or_eq_false_iff, Bool.and_eq_false_iff, Bool.not_eq_true', Bool.not_eq_false', Int.toNat_natCast, bne_iff_ne, beq_iff_eq, bne_eq_false_iff_eq, beq_eq_false_iff_ne, ne_eq] at c3
        refine .seq ?_
        refine .seq ?_
        refine Wk.rg [0, 1, 2, 3, 4, 5] rfl rfl ?_
        refine mv rfl .no (.u rfl) ?_
        refine cp rfl .no (.u rfl) (.u rfl) rfl ?_
        refine mv rfl .no (.u rfl) ?_
        refine mv rfl (.t rfl rfl) (.u rfl) ?_
        refine cp rfl (.t rfl rfl) (.s rfl) (.u rfl) rfl ?_
        refine pkA rfl .no (.u rfl) (.s rfl) ?_
        refine .nil ?_
        refine .code ?_
        refine .cond rfl (fun c4 => ?_) (fun c4 => ?_)
        · have c4k := c4
          try simp only [decide_eq_true_eq, decide_eq_false_iff_not, Int.not_lt, Int.not_le, gt_iff_lt, ge_iff_le, Bool.or_eq_true, Bool.and_eq_true, Bool.or_eq_false_iff, Bool.and_eq_false_iff, Bool.not_eq_true', Bool.not_eq_false', Int.toNat_natCast, bne_iff_ne, beq_iff_eq, bne_eq_false_iff_eq, beq_eq_false_iff_ne, ne_eq] at c4
          refine .seq ?_
          refine Wk.rg [0, 1, 2] rfl rfl ?_
          refine asg rfl .no (.u rfl) ?_
          refine asg rfl .no (.u rfl) ?_
          refine asg rfl .no (.u rfl) ?_
          refine .nil ?_
          refine .code ?_
          refine .ret ?_
          refine We.fin0 Tryd.results74 (.tmp rfl (.tmp rfl (.tmp rfl .nil))) ?_
          exact ⟨0, 0, 11, .of (np_zero e (by omega) (by omega) (by omega)), rfl, rfl⟩
        · have c4k := c4
          try simp only [decide_eq_true_eq, decide_eq_false_iff_not, Int.not_lt, Int.not_le, gt_iff_lt, ge_iff_le, Bool.or_eq_true, Bool.and_eq_true, Bool.or_eq_false_iff, Bool.and_eq_false_iff, Bool.not_eq_true', Bool.not_eq_false', Int.toNat_natCast, bne_iff_ne, beq_iff_eq, bne_eq_false_iff_eq, beq_eq_false_iff_ne, ne_eq] at c4
          refine .skip ?_
          refine .code ?_
          refine .seq ?_
          refine Wk.rg [0, 1, 2, 3, 4, 5] rfl rfl ?_
          refine mv rfl .no (.u rfl) ?_
          refine mv rfl .no (.u rfl) ?_
          refine arn (((k + 1) : Nat) : Int) rfl .no (.u rfl) (.u rfl) rfl (fun _ => by omega) (fun _ => wrap_i64 (by omega) (by omega)) ?_
          refine asg rfl .no (.u rfl) ?_
          refine asg rfl .no (.u rfl) ?_
          refine asg rfl .no (.u rfl) ?_
          refine .nil ?_
          refine .code ?_
          refine .ret ?_
          refine We.fin0 Tryd.results74 (.tmp rfl (.tmp rfl (.tmp rfl .nil))) ?_
          exact ⟨_, _, 0, .of (np_end e hw h9 (by omega) (by omega) (by omega) (by omega)), rfl, rfl⟩
      · have c3k := c3
        try simp only [decide_eq_true_eq, decide_eq_false_iff_not, Int.not_lt, Int.not_le, gt_iff_lt, ge_iff_le, Bool.or_eq_true, Bool.and_eq_true, Bool.or_eq_false_iff, Bool.and_eq_false_iff, Bool.not_eq_true', Bool.not_eq_false', Int.toNat_natCast, bne_iff_ne, beq_iff_eq, bne_eq_false_iff_eq, beq_eq_false_iff_ne, ne_eq] at c3
        refine .skip ?_
        refine .blk ?_
        refine .code ?_
        refine Wk.rg [0, 1] rfl rfl ?_
        refine arn (((k + 1) : Nat) : Int) rfl .no (.u rfl) (.u rfl) rfl (fun _ => by omega) (fun _ => wrap_i64 (by omega) (by omega)) ?_
        refine mv rfl .no (.u rfl) ?_
        refine .nil ?_
        refine We.lpo (k + 1, w ||| (xs.getD k 0 &&& 127#8).setWidth 64 <<< (7 * k)) ?_ ?_ ?_ ?_ ?_
        · exact (ESub.cons rfl rfl (ESub.cons rfl (by first | rfl | exact evi (by omega)) (ESub.cons rfl rfl (ESub.cons rfl rfl ESub.nil))))
        · exact MSub.nil
        · first | omega | (dsimp only; omega)
        · exact hGl0
        · refine ⟨?_, ?_, ?_, ?_⟩
          · (try dsimp only) <;> (first | omega | rfl | assumption | (simp; done))
          · (try dsimp only) <;> (exact (np_more e hw h9 (by omega) (by omega) (by omega)).2.2)
          · (try dsimp only) <;> (exact (np_more e hw h9 (by omega) (by omega) (by omega)).2.1)
          · (try dsimp only) <;> (exact (np_more e hw h9 (by omega) (by omega) (by omega)).1)
  · have c1k := c1
    try simp only [decide_eq_true_eq, decide_eq_false_iff_not, Int.not_lt, Int.not_le, gt_iff_lt, ge_iff_le, Bool.or_eq_true, Bool.and_eq_true, Bool.or_eq_false_iff, Bool.and_eq_false_iff, Bool.not_eq_true', Bool.not_eq_false', Int.toNat_natCast, bne_iff_ne, beq_iff_eq, bne_eq_false_iff_eq, beq_eq_false_iff_ne, ne_eq] at c1
    refine .exit ?_
    refine .xcode ?_
    refine .xlp ?_
    refine .xblk ?_
    refine .code ?_
    refine .seq ?_
    refine Wk.rg [0, 1, 2] rfl rfl ?_
    refine asg rfl .no (.u rfl) ?_
    refine asg rfl .no (.u rfl) ?_
    refine asg rfl .no (.u rfl) ?_
    refine .nil ?_
    refine .code ?_
    refine .ret ?_
    refine We.fin0 Tryd.results74 (.tmp rfl (.tmp rfl (.tmp rfl .nil))) ?_
    exact ⟨0, 0, 10, .of (np_short e (by omega)), rfl, rfl⟩

end Go.Proofs.YtbdnclpopappeaaDoor

namespace Go.Proofs.YtbdnclpopappeaaDoor
set_option linter.unusedSimpArgs false
set_option linter.unusedVariables false
open Go.Tan Go.RowKit

namespace FxVerS
theorem bp145_0 : bPl Tryd.prog 145 [0] = some ([.slice none 0 0, .int .i64 0], [(0, 1)]) := by kernel_rfl
theorem pt120 : ptT Tryd.prog 120 = true := by kernel_rfl
theorem fo145_1 : fOff Tryd.prog 145 1 = some 1 := by kernel_rfl
theorem ag39 : aggN Tryd.prog 39 = some none := by kernel_rfl
theorem fo145_0 : fOff Tryd.prog 145 0 = some 0 := by kernel_rfl
theorem ag36 : aggN Tryd.prog 36 = some none := by kernel_rfl
theorem sz36 : szT Tryd.prog 36 = some 1 := by kernel_rfl
theorem bs36_9 : bsT Tryd.prog 36 9 = true := by kernel_rfl
end FxVerS
namespace Fx
theorem go74 : goFn Tryd.prog 74 = true := by kernel_rfl
theorem sz39 : szT Tryd.prog 39 = some 1 := by kernel_rfl
theorem cv24_3 : cvK Tryd.prog 24 3 = some .i64 := by kernel_rfl
theorem go58 : goFn Tryd.prog 58 = true := by kernel_rfl
theorem go75 : goFn Tryd.prog 75 = true := by kernel_rfl
end Fx
theorem rNum_ok (xs : List Y) (e : Int) (s : Sh) (b : Nat) (G : PM) (hs : SlR G 1 encY s xs) (hl : xs.length ≤ 100000000000000) : Ct Tryd.prog 57 ([.pointer (some ⟨b, 0, none⟩)] : List Value).toArray G [.blk b (cl [s.val xs.length, .int .i64 e] 145)] (fun G' μ' u => ∃ n L e' s', rdNum ⟨xs, e⟩ = (n, ⟨L, e'⟩) ∧ μ' = [.blk b (cl [Sh.val s' L.length, .int .i64 e'] 145)] ∧ u = .int .u64 (n : Int) ∧ SlR G' 1 encY s' L) := by
  refine Ct.of Tryd.func57 rfl Tryd.ntmps57 rfl fun w0 hs0 => ?_
  refine .seq ?_
  refine Wk.rg [0] rfl rfl ?_
  refine asg rfl .no (.u rfl) ?_
  refine .nil ?_
  refine .code ?_
  refine .seq ?_
  refine .seq ?_
  refine Wk.rg [0, 1, 2, 3, 4, 5, 6, 7, 8] rfl rfl ?_
  refine mv rfl .no (.u rfl) ?_
  refine pe rfl .no FxVerS.pt120 (.u rfl) (.u rfl) ?_
  refine mv rfl .no (.u rfl) ?_
  refine mv rfl (Gd.f (b := false) rfl rfl) (.u rfl) ?_
  refine nc rfl (Gd.f (b := false) rfl rfl) (.u rfl) ?_
  refine fz rfl (Gd.f (b := false) rfl rfl) FxVerS.fo145_1 (.u rfl) ?_
  refine ld rfl (Gd.f (b := false) rfl rfl) FxVerS.ag39 (.u rfl) (fun _ => Rd.own .here (by first | exact wap_f rfl | rfl)) ?_
  refine cp rfl (Gd.f (b := false) rfl rfl) (.u rfl) (.u rfl) rfl ?_
  refine pkO rfl .no (.u rfl) (.u rfl) ?_
  refine .nil ?_
  refine .code ?_
  refine .cond rfl (fun c1 => ?_) (fun c1 => ?_)
  · have c1k := c1
    try simp only [decide_eq_true_eq, decide_eq_false_iff_not, Int.not_lt, Int.not_le, gt_iff_lt, ge_iff_le, Bool.or_eq_true, Bool.and_eq_true, Bool.or_eq_false_iff, Bool.and_eq_false_iff, Bool.not_eq_true', Bool.not_eq_false', Int.toNat_natCast, bne_iff_ne, beq_iff_eq, bne_eq_false_iff_eq, beq_eq_false_iff_ne, ne_eq] at c1
    refine .seq ?_
    refine Wk.rg [0] rfl rfl ?_
    refine asg rfl .no (.u rfl) ?_
    refine .nil ?_
    refine .code ?_
    refine .ret ?_
    refine We.fin Tryd.results57 (.tmp rfl .nil) (MSub.cons .here rfl MSub.nil) ?_
    exact ⟨0, xs, e, s, rd_num_bad (by simpa using c1k), rfl, rfl, hs⟩
  · have c1k := c1
    try simp only [decide_eq_true_eq, decide_eq_false_iff_not, Int.not_lt, Int.not_le, gt_iff_lt, ge_iff_le, Bool.or_eq_true, Bool.and_eq_true, Bool.or_eq_false_iff, Bool.and_eq_false_iff, Bool.not_eq_true', Bool.not_eq_false', Int.toNat_natCast, bne_iff_ne, beq_iff_eq, bne_eq_false_iff_eq, beq_eq_false_iff_ne, ne_eq] at c1
    refine .skip ?_
    refine .code ?_
    refine .seq ?_
    refine Wk.rg [0, 1, 2, 3, 4, 5, 6, 7, 8, 9, 10, 11] rfl rfl ?_
    refine mv rfl .no (.u rfl) ?_
    refine nc rfl .no (.u rfl) ?_
    refine fz rfl .no FxVerS.fo145_0 (.u rfl) ?_
    refine ld rfl .no FxVerS.ag36 (.u rfl) (fun _ => Rd.own .here (by first | exact wap_f rfl | rfl)) ?_
    refine kc rfl Fx.go74 (Eva.cons (.u rfl) Eva.nil) (number_ok xs s _ hs hl) ?_
    rintro _ G20 μ20 hG20 ⟨n20, k20, e20, hN, rfl, rfl⟩
    have hNl := hN.le; have hNt := hN.lt
    have hs := hs.mono hG20
    refine mv rfl .no (.u rfl) ?_
    refine ex rfl .no (.u rfl) rfl ?_
    refine ex rfl .no (.u rfl) rfl ?_
    refine ex rfl .no (.u rfl) rfl ?_
    refine asg rfl .no (.u rfl) ?_
    refine asg rfl .no (.u rfl) ?_
    refine asg rfl .no (.u rfl) ?_
    refine .nil ?_
    refine .code ?_
    refine .seq ?_
    refine Wk.rg [0, 1, 2, 3, 4] rfl rfl ?_
    refine mv rfl .no (.u rfl) ?_
    refine mv rfl .no (.u rfl) ?_
    refine nc rfl .no (.u rfl) ?_
    refine fz rfl .no FxVerS.fo145_1 (.u rfl) ?_
    refine s1 rfl (.u rfl) (.u rfl) rfl Fx.sz39 .here (by first | decide | (simp only [wa_len, ba_len, List.length_append, List.length_cons, List.length_nil]; omega)) (rfl) ?_
    refine .nil ?_
    refine .code ?_
    refine .seq ?_
    refine Wk.rg [0, 1, 2, 3, 4, 5, 6, 7, 8, 9] rfl rfl ?_
    refine mv rfl .no (.u rfl) ?_
    refine mv rfl .no (.u rfl) ?_
    refine nc rfl .no (.u rfl) ?_
    refine fz rfl .no FxVerS.fo145_0 (.u rfl) ?_
    refine ld rfl .no FxVerS.ag36 (.u rfl) (fun _ => Rd.own .here (by first | exact wap_f rfl | rfl)) ?_
    refine mv rfl .no (.u rfl) ?_
    refine kD (k20) rfl .no FxVerR.se36 hs (.u rfl) (.u rfl) (fun _ => by omega) (fun _ => by omega) ?_
    intro h34 L34 eL34 lL34 hs34
    have lL34 := lL34 rfl
    refine nc rfl .no (.u rfl) ?_
    refine fz rfl .no FxVerS.fo145_0 (.u rfl) ?_
    refine s1 rfl (.u rfl) (.u rfl) rfl FxVerS.sz36 .here (show 0 < 2 by decide) (rfl) ?_
    refine .nil ?_
    refine .code ?_
    refine .seq ?_
    refine Wk.rg [0, 1] rfl rfl ?_
    refine mv rfl .no (.u rfl) ?_
    refine asg rfl .no (.u rfl) ?_
    refine .nil ?_
    refine .code ?_
    refine .ret ?_
    refine We.fin Tryd.results57 (.tmp rfl .nil) (MSub.cons .here rfl MSub.nil) ?_
    exact ⟨n20, L34, e20, h34, rd_num_ok (by simpa using c1k) hN eL34, rfl, rfl, hs34⟩

theorem rStr_ok (xs : List Y) (e : Int) (s : Sh) (b : Nat) (G : PM) (hs : SlR G 1 encY s xs) (hl : xs.length ≤ 100000000000000) (most : Nat) (hm : most ≤ 100000000000000) : Ct Tryd.prog 59 ([.pointer (some ⟨b, 0, none⟩), .int .i64 (most : Int)] : List Value).toArray G [.blk b (cl [s.val xs.length, .int .i64 e] 145)] (fun G' μ' u => ∃ M L e' s', rdStr most ⟨xs, e⟩ = (M, ⟨L, e'⟩) ∧ μ' = [.blk b (cl [Sh.val s' L.length, .int .i64 e'] 145)] ∧ u = .string (bstr M) ∧ SlR G' 1 encY s' L) := by
  refine Ct.of Tryd.func59 rfl Tryd.ntmps59 rfl fun w0 hs0 => ?_
  refine .seq ?_
  refine Wk.rg [0] rfl rfl ?_
  refine asg rfl .no (.u rfl) ?_
  refine .nil ?_
  refine .code ?_
  refine .seq ?_
  refine .seq ?_
  refine Wk.rg [0, 1, 2, 3, 4, 5, 6, 7, 8] rfl rfl ?_
  refine mv rfl .no (.u rfl) ?_
  refine pe rfl .no FxVerS.pt120 (.u rfl) (.u rfl) ?_
  refine mv rfl .no (.u rfl) ?_
  refine mv rfl (Gd.f (b := false) rfl rfl) (.u rfl) ?_
  refine nc rfl (Gd.f (b := false) rfl rfl) (.u rfl) ?_
  refine fz rfl (Gd.f (b := false) rfl rfl) FxVerS.fo145_1 (.u rfl) ?_
  refine ld rfl (Gd.f (b := false) rfl rfl) FxVerS.ag39 (.u rfl) (fun _ => Rd.own .here (by first | exact wap_f rfl | rfl)) ?_
  refine cp rfl (Gd.f (b := false) rfl rfl) (.u rfl) (.u rfl) rfl ?_
  refine pkO rfl .no (.u rfl) (.u rfl) ?_
  refine .nil ?_
  refine .code ?_
  refine .cond rfl (fun c1 => ?_) (fun c1 => ?_)
  · have c1k := c1
    try simp only [decide_eq_true_eq, decide_eq_false_iff_not, Int.not_lt, Int.not_le, gt_iff_lt, ge_iff_le, Bool.or_eq_true, Bool.and_eq_true, Bool.or_eq_false_iff, Bool.and_eq_false_iff, Bool.not_eq_true', Bool.not_eq_false', Int.toNat_natCast, bne_iff_ne, beq_iff_eq, bne_eq_false_iff_eq, beq_eq_false_iff_ne, ne_eq] at c1
    refine .seq ?_
    refine Wk.rg [0] rfl rfl ?_
    refine asg rfl .no (.u rfl) ?_
    refine .nil ?_
    refine .code ?_
    refine .ret ?_
    refine We.fin Tryd.results59 (.tmp rfl .nil) (MSub.cons .here rfl MSub.nil) ?_
    exact ⟨[], xs, e, s, rd_str_bad (by simpa using c1k), rfl, rfl, hs⟩
  · have c1k := c1
    try simp only [decide_eq_true_eq, decide_eq_false_iff_not, Int.not_lt, Int.not_le, gt_iff_lt, ge_iff_le, Bool.or_eq_true, Bool.and_eq_true, Bool.or_eq_false_iff, Bool.and_eq_false_iff, Bool.not_eq_true', Bool.not_eq_false', Int.toNat_natCast, bne_iff_ne, beq_iff_eq, bne_eq_false_iff_eq, beq_eq_false_iff_ne, ne_eq] at c1
    refine .skip ?_
    refine .code ?_
    refine .seq ?_
    refine Wk.rg [0, 1, 2, 3, 4, 5, 6, 7, 8, 9, 10, 11] rfl rfl ?_
    refine mv rfl .no (.u rfl) ?_
    refine nc rfl .no (.u rfl) ?_
    refine fz rfl .no FxVerS.fo145_0 (.u rfl) ?_
    refine ld rfl .no FxVerS.ag36 (.u rfl) (fun _ => Rd.own .here (by first | exact wap_f rfl | rfl)) ?_
    refine kc rfl Fx.go74 (Eva.cons (.u rfl) Eva.nil) (number_ok xs s _ hs hl) ?_
    rintro _ G24 μ24 hG24 ⟨n20, k20, e20, hN, rfl, rfl⟩
    have hNl := hN.le; have hNt := hN.lt
    have hs := hs.mono hG24
    refine mv rfl .no (.u rfl) ?_
    refine ex rfl .no (.u rfl) rfl ?_
    refine ex rfl .no (.u rfl) rfl ?_
    refine ex rfl .no (.u rfl) rfl ?_
    refine asg rfl .no (.u rfl) ?_
    refine asg rfl .no (.u rfl) ?_
    refine asg rfl .no (.u rfl) ?_
    refine .nil ?_
    refine .code ?_
    refine .seq ?_
    refine .block ?_
    refine .seq ?_
    refine Wk.rg [0, 1, 2] rfl rfl ?_
    refine mv rfl .no (.u rfl) ?_
    refine cp rfl .no (.u rfl) (.u rfl) rfl ?_
    refine asg rfl .no (.u rfl) ?_
    refine .nil ?_
    refine .code ?_
    refine .cond rfl (fun c2 => ?_) (fun c2 => ?_)
    · have c2k := c2
      try simp only [decide_eq_true_eq, decide_eq_false_iff_not, Int.not_lt, Int.not_le, gt_iff_lt, ge_iff_le, Bool.or_eq_true, Bool.and_eq_true, Bool.or_eq_false_iff, Bool.and_eq_false_iff, Bool.not_eq_true', Bool.not_eq_false', Int.toNat_natCast, bne_iff_ne, beq_iff_eq, bne_eq_false_iff_eq, beq_eq_false_iff_ne, ne_eq] at c2
      refine .seq ?_
      refine Wk.rg [0, 1, 2, 3, 4] rfl rfl ?_
      refine mv rfl .no (.u rfl) ?_
      refine mv rfl .no (.u rfl) ?_
      refine nc rfl .no (.u rfl) ?_
      refine fz rfl .no FxVerS.fo145_1 (.u rfl) ?_
      refine s1 rfl (.u rfl) (.u rfl) rfl Fx.sz39 .here (by first | decide | (simp only [wa_len, ba_len, List.length_append, List.length_cons, List.length_nil]; omega)) (rfl) ?_
      refine .nil ?_
      refine .code ?_
      refine .seq ?_
      refine Wk.rg [0] rfl rfl ?_
      refine asg rfl .no (.u rfl) ?_
      refine .nil ?_
      refine .code ?_
      refine .ret ?_
      refine We.fin Tryd.results59 (.tmp rfl .nil) (MSub.cons .here rfl MSub.nil) ?_
      exact ⟨[], xs, e20, s, rd_str_form (by simpa using c1k) hN (by simpa using c2k), rfl, rfl, hs⟩
    · have c2k := c2
      try simp only [decide_eq_true_eq, decide_eq_false_iff_not, Int.not_lt, Int.not_le, gt_iff_lt, ge_iff_le, Bool.or_eq_true, Bool.and_eq_true, Bool.or_eq_false_iff, Bool.and_eq_false_iff, Bool.not_eq_true', Bool.not_eq_false', Int.toNat_natCast, bne_iff_ne, beq_iff_eq, bne_eq_false_iff_eq, beq_eq_false_iff_ne, ne_eq] at c2
      refine .seq ?_
      refine Wk.rg [0, 1, 2, 3, 4, 5] rfl rfl ?_
      refine mv rfl .no (.u rfl) ?_
      refine mv rfl .no (.u rfl) ?_
      refine mAn (0) (most) rfl .no (.u rfl) (.u rfl) (fun _ => by omega) (fun _ => by omega) ?_
      refine cw rfl .no FxVerR.cv3_24 (.u rfl) (fun _ => wrap_u64 (by omega) (by omega)) ?_
      refine cp rfl .no (.u rfl) (.u rfl) rfl ?_
      refine asg rfl .no (.u rfl) ?_
      refine .nil ?_
      refine .code ?_
      refine .cond rfl (fun c3 => ?_) (fun c3 => ?_)
      · have c3k := c3
        try simp only [decide_eq_true_eq, decide_eq_false_iff_not, Int.not_lt, Int.not_le, gt_iff_lt, ge_iff_le, Bool.or_eq_true, Bool.and_eq_true, Bool.or_eq_false_iff, Bool.and_eq_false_iff, Bool.not_eq_true', Bool.not_eq_false', Int.toNat_natCast, bne_iff_ne, beq_iff_eq, bne_eq_false_iff_eq, beq_eq_false_iff_ne, ne_eq] at c3
        refine .seq ?_
        refine Wk.rg [0, 1, 2, 3] rfl rfl ?_
        refine mv rfl .no (.u rfl) ?_
        refine nc rfl .no (.u rfl) ?_
        refine fz rfl .no FxVerS.fo145_1 (.u rfl) ?_
        refine s1 rfl (.u rfl) (.u rfl) rfl Fx.sz39 .here (by first | decide | (simp only [wa_len, ba_len, List.length_append, List.length_cons, List.length_nil]; omega)) (rfl) ?_
        refine .nil ?_
        refine .code ?_
        refine .seq ?_
        refine Wk.rg [0] rfl rfl ?_
        refine asg rfl .no (.u rfl) ?_
        refine .nil ?_
        refine .code ?_
        refine .ret ?_
        refine We.fin Tryd.results59 (.tmp rfl .nil) (MSub.cons .here rfl MSub.nil) ?_
        exact ⟨[], xs, 4, s, rd_str_long (by simpa using c1k) hN (by simpa using c2k) (by omega), rfl, rfl, hs⟩
      · have c3k := c3
        try simp only [decide_eq_true_eq, decide_eq_false_iff_not, Int.not_lt, Int.not_le, gt_iff_lt, ge_iff_le, Bool.or_eq_true, Bool.and_eq_true, Bool.or_eq_false_iff, Bool.and_eq_false_iff, Bool.not_eq_true', Bool.not_eq_false', Int.toNat_natCast, bne_iff_ne, beq_iff_eq, bne_eq_false_iff_eq, beq_eq_false_iff_ne, ne_eq] at c3
        refine .seq ?_
        refine Wk.rg [0, 1, 2, 3, 4, 5, 6, 7, 8, 9, 10] rfl rfl ?_
        refine mv rfl .no (.u rfl) ?_
        refine mv rfl .no (.u rfl) ?_
        refine nc rfl .no (.u rfl) ?_
        refine fz rfl .no FxVerS.fo145_0 (.u rfl) ?_
        refine ld rfl .no FxVerS.ag36 (.u rfl) (fun _ => Rd.own .here (by first | exact wap_f rfl | rfl)) ?_
        refine ln rfl .no FxVerR.sn36 (.u rfl) ?_
        refine mv rfl .no (.u rfl) ?_
        refine ar rfl .no (.u rfl) (.u rfl) rfl (fun _ => wrap_i64 (by omega) (by omega)) ?_
        refine cw rfl .no FxVerR.cv3_24 (.u rfl) (fun _ => wrap_u64 (by omega) (by omega)) ?_
        refine cp rfl .no (.u rfl) (.u rfl) rfl ?_
        refine asg rfl .no (.u rfl) ?_
        refine .nil ?_
        refine .code ?_
        refine .cond rfl (fun c4 => ?_) (fun c4 => ?_)
        · have c4k := c4
          try simp only [decide_eq_true_eq, decide_eq_false_iff_not, Int.not_lt, Int.not_le, gt_iff_lt, ge_iff_le, Bool.or_eq_true, Bool.and_eq_true, Bool.or_eq_false_iff, Bool.and_eq_false_iff, Bool.not_eq_true', Bool.not_eq_false', Int.toNat_natCast, bne_iff_ne, beq_iff_eq, bne_eq_false_iff_eq, beq_eq_false_iff_ne, ne_eq] at c4
          refine .seq ?_
          refine Wk.rg [0, 1, 2, 3] rfl rfl ?_
          refine mv rfl .no (.u rfl) ?_
          refine nc rfl .no (.u rfl) ?_
          refine fz rfl .no FxVerS.fo145_1 (.u rfl) ?_
          refine s1 rfl (.u rfl) (.u rfl) rfl Fx.sz39 .here (by first | decide | (simp only [wa_len, ba_len, List.length_append, List.length_cons, List.length_nil]; omega)) (rfl) ?_
          refine .nil ?_
          refine .code ?_
          refine .seq ?_
          refine Wk.rg [0] rfl rfl ?_
          refine asg rfl .no (.u rfl) ?_
          refine .nil ?_
          refine .code ?_
          refine .ret ?_
          refine We.fin Tryd.results59 (.tmp rfl .nil) (MSub.cons .here rfl MSub.nil) ?_
          exact ⟨[], xs, 10, s, rd_str_short (by simpa using c1k) hN (by simpa using c2k) (by omega) (by omega), rfl, rfl, hs⟩
        · have c4k := c4
          try simp only [decide_eq_true_eq, decide_eq_false_iff_not, Int.not_lt, Int.not_le, gt_iff_lt, ge_iff_le, Bool.or_eq_true, Bool.and_eq_true, Bool.or_eq_false_iff, Bool.and_eq_false_iff, Bool.not_eq_true', Bool.not_eq_false', Int.toNat_natCast, bne_iff_ne, beq_iff_eq, bne_eq_false_iff_eq, beq_eq_false_iff_ne, ne_eq] at c4
          refine .skip ?_
          refine .blk ?_
          refine .code ?_
          refine .seq ?_
          refine Wk.rg [0, 1, 2, 3, 4] rfl rfl ?_
          refine mv rfl .no (.u rfl) ?_
          refine mv rfl .no (.u rfl) ?_
          refine cw rfl .no Fx.cv24_3 (.u rfl) (fun _ => wrap_i64 (by omega) (by omega)) ?_
          refine arn (((k20 + n20) : Nat) : Int) rfl .no (.u rfl) (.u rfl) rfl (fun _ => by omega) (fun _ => wrap_i64 (by omega) (by omega)) ?_
          refine asg rfl .no (.u rfl) ?_
          refine .nil ?_
          refine .code ?_
          refine .seq ?_
          refine Wk.rg [0, 1, 2, 3, 4, 5, 6, 7, 8] rfl rfl ?_
          refine mv rfl .no (.u rfl) ?_
          refine nc rfl .no (.u rfl) ?_
          refine fz rfl .no FxVerS.fo145_0 (.u rfl) ?_
          refine ld rfl .no FxVerS.ag36 (.u rfl) (fun _ => Rd.own .here (by first | exact wap_f rfl | rfl)) ?_
          refine mv rfl .no (.u rfl) ?_
          refine mv rfl .no (.u rfl) ?_
          refine kS (k20) ((k20 + n20)) rfl .no FxVerR.se36 hs (.u rfl) (.u rfl) (.u rfl) (fun _ => by omega) (fun _ => by omega) (fun _ => by omega) (fun _ => by omega) ?_
          intro h68 L68 eL68 lL68 hs68
          have lL68 := lL68 rfl
          refine sB rfl .no FxVerS.bs36_9 (.u rfl) (fun _ => hs68.sc) ?_
          refine asg rfl .no (.u rfl) ?_
          refine .nil ?_
          refine .code ?_
          refine .seq ?_
          refine Wk.rg [0, 1, 2, 3, 4, 5, 6, 7, 8, 9] rfl rfl ?_
          refine mv rfl .no (.u rfl) ?_
          refine mv rfl .no (.u rfl) ?_
          refine nc rfl .no (.u rfl) ?_
          refine fz rfl .no FxVerS.fo145_0 (.u rfl) ?_
          refine ld rfl .no FxVerS.ag36 (.u rfl) (fun _ => Rd.own .here (by first | exact wap_f rfl | rfl)) ?_
          refine mv rfl .no (.u rfl) ?_
          refine kD ((k20 + n20)) rfl .no FxVerR.se36 hs (.u rfl) (.u rfl) (fun _ => by omega) (fun _ => by omega) ?_
          intro h76 L76 eL76 lL76 hs76
          have lL76 := lL76 rfl
          refine nc rfl .no (.u rfl) ?_
          refine fz rfl .no FxVerS.fo145_0 (.u rfl) ?_
          refine s1 rfl (.u rfl) (.u rfl) rfl FxVerS.sz36 .here (by first | decide | (simp only [wa_len, ba_len, List.length_append, List.length_cons, List.length_nil]; omega)) (rfl) ?_
          refine .nil ?_
          refine .code ?_
          refine .seq ?_
          refine Wk.rg [0, 1] rfl rfl ?_
          refine mv rfl .no (.u rfl) ?_
          refine asg rfl .no (.u rfl) ?_
          refine .nil ?_
          refine .code ?_
          refine .ret ?_
          refine We.fin Tryd.results59 (.tmp rfl .nil) (MSub.cons .here rfl MSub.nil) ?_
          obtain rfl : e = 0 := by simpa using c1k
          exact ⟨L68, L76, 0, h76, rd_str_ok rfl hN (by simpa using c2k) (by omega) (by omega) eL68 eL76, rfl, rfl, hs76⟩

theorem rFix_ok (xs : List Y) (e : Int) (s : Sh) (b : Nat) (G : PM) (hs : SlR G 1 encY s xs) (hl : xs.length ≤ 100000000000000) : Ct Tryd.prog 55 ([.pointer (some ⟨b, 0, none⟩), .int .i64 ((1 : Nat) : Int)] : List Value).toArray G [.blk b (cl [s.val xs.length, .int .i64 e] 145)] (fun G' μ' u => ∃ y L e' s', rdByte ⟨xs, e⟩ = (y, ⟨L, e'⟩) ∧ μ' = [.blk b (cl [Sh.val s' L.length, .int .i64 e'] 145)] ∧ u = uv .u64 (y.setWidth 64) ∧ SlR G' 1 encY s' L) := by
  refine Ct.of Tryd.func55 rfl Tryd.ntmps55 rfl fun w0 hs0 => ?_
  refine .seq ?_
  refine Wk.rg [0] rfl rfl ?_
  refine asg rfl .no (.u rfl) ?_
  refine .nil ?_
  refine .code ?_
  refine .seq ?_
  refine .seq ?_
  refine Wk.rg [0, 1, 2, 3, 4, 5, 6, 7, 8] rfl rfl ?_
  refine mv rfl .no (.u rfl) ?_
  refine pe rfl .no FxVerS.pt120 (.u rfl) (.u rfl) ?_
  refine mv rfl .no (.u rfl) ?_
  refine mv rfl (Gd.f (b := false) rfl rfl) (.u rfl) ?_
  refine nc rfl (Gd.f (b := false) rfl rfl) (.u rfl) ?_
  refine fz rfl (Gd.f (b := false) rfl rfl) FxVerS.fo145_1 (.u rfl) ?_
  refine ld rfl (Gd.f (b := false) rfl rfl) FxVerS.ag39 (.u rfl) (fun _ => Rd.own .here (by first | exact wap_f rfl | rfl)) ?_
  refine cp rfl (Gd.f (b := false) rfl rfl) (.u rfl) (.u rfl) rfl ?_
  refine pkO rfl .no (.u rfl) (.u rfl) ?_
  refine .nil ?_
  refine .code ?_
  refine .cond rfl (fun c1 => ?_) (fun c1 => ?_)
  · have c1k := c1
    try simp only [decide_eq_true_eq, decide_eq_false_iff_not, Int.not_lt, Int.not_le, gt_iff_lt, ge_iff_le, Bool.or_eq_true, Bool.and_eq_true, Bool.or_eq_false_iff, Bool.and_eq_false_iff, Bool.not_eq_true', Bool.not_eq_false', Int.toNat_natCast, bne_iff_ne, beq_iff_eq, bne_eq_false_iff_eq, beq_eq_false_iff_ne, ne_eq] at c1
    refine .seq ?_
    refine Wk.rg [0] rfl rfl ?_
    refine asg rfl .no (.u rfl) ?_
    refine .nil ?_
    refine .code ?_
    refine .ret ?_
    refine We.fin Tryd.results55 (.tmp rfl .nil) (MSub.cons .here rfl MSub.nil) ?_
    exact ⟨0, xs, e, s, rd_byte_bad (by simpa using c1k), rfl, rfl, hs⟩
  · have c1k := c1
    try simp only [decide_eq_true_eq, decide_eq_false_iff_not, Int.not_lt, Int.not_le, gt_iff_lt, ge_iff_le, Bool.or_eq_true, Bool.and_eq_true, Bool.or_eq_false_iff, Bool.and_eq_false_iff, Bool.not_eq_true', Bool.not_eq_false', Int.toNat_natCast, bne_iff_ne, beq_iff_eq, bne_eq_false_iff_eq, beq_eq_false_iff_ne, ne_eq] at c1
    refine .skip ?_
    refine .code ?_
    refine .seq ?_
    refine .seq ?_
    refine Wk.rg [0, 1, 2, 3, 4, 5] rfl rfl ?_
    refine mv rfl .no (.u rfl) ?_
    refine cp rfl .no (.u rfl) (.u rfl) rfl ?_
    refine mv rfl .no (.u rfl) ?_
    refine mv rfl (.f rfl rfl) (.u rfl) ?_
    refine cp rfl (.f rfl rfl) (.s rfl) (.u rfl) rfl ?_
    refine pkO rfl .no (.u rfl) (.s rfl) ?_
    refine .nil ?_
    refine .code ?_
    refine .cond rfl (fun c2 => ?_) (fun c2 => ?_)
    · have c2k := c2
      exact absurd c2 (by decide)
    · have c2k := c2
      try simp only [decide_eq_true_eq, decide_eq_false_iff_not, Int.not_lt, Int.not_le, gt_iff_lt, ge_iff_le, Bool.or_eq_true, Bool.and_eq_true, Bool.or_eq_false_iff, Bool.and_eq_false_iff, Bool.not_eq_true', Bool.not_eq_false', Int.toNat_natCast, bne_iff_ne, beq_iff_eq, bne_eq_false_iff_eq, beq_eq_false_iff_ne, ne_eq] at c2
      refine .skip ?_
      refine .code ?_
      refine .seq ?_
      refine .seq ?_
      refine Wk.rg [0, 1, 2, 3, 4, 5, 6] rfl rfl ?_
      refine mv rfl .no (.u rfl) ?_
      refine mv rfl .no (.u rfl) ?_
      refine nc rfl .no (.u rfl) ?_
      refine fz rfl .no FxVerS.fo145_0 (.u rfl) ?_
      refine ld rfl .no FxVerS.ag36 (.u rfl) (fun _ => Rd.own .here (by first | exact wap_f rfl | rfl)) ?_
      refine ln rfl .no FxVerR.sn36 (.u rfl) ?_
      refine cp rfl .no (.u rfl) (.u rfl) rfl ?_
      refine .nil ?_
      refine .code ?_
      refine .cond rfl (fun c3 => ?_) (fun c3 => ?_)
      · have c3k := c3
        try simp only [decide_eq_true_eq, decide_eq_false_iff_not, Int.not_lt, Int.not_le, gt_iff_lt, ge_iff_le, Bool.or_eq_true, Bool.and_eq_true, Bool.or_eq_false_iff, Bool.and_eq_false_iff, Bool.not_eq_true', Bool.not_eq_false', Int.toNat_natCast, bne_iff_ne, beq_iff_eq, bne_eq_false_iff_eq, beq_eq_false_iff_ne, ne_eq] at c3
        refine .seq ?_
        refine Wk.rg [0, 1, 2, 3] rfl rfl ?_
        refine mv rfl .no (.u rfl) ?_
        refine nc rfl .no (.u rfl) ?_
        refine fz rfl .no FxVerS.fo145_1 (.u rfl) ?_
        refine s1 rfl (.u rfl) (.u rfl) rfl Fx.sz39 .here (by first | decide | (simp only [wa_len, ba_len, List.length_append, List.length_cons, List.length_nil]; omega)) (rfl) ?_
        refine .nil ?_
        refine .code ?_
        refine .seq ?_
        refine Wk.rg [0] rfl rfl ?_
        refine asg rfl .no (.u rfl) ?_
        refine .nil ?_
        refine .code ?_
        refine .ret ?_
        refine We.fin Tryd.results55 (.tmp rfl .nil) (MSub.cons .here rfl MSub.nil) ?_
        exact ⟨0, xs, 10, s, rd_byte_short (by simpa using c1k) (by omega), rfl, rfl, hs⟩
      · have c3k := c3
        try simp only [decide_eq_true_eq, decide_eq_false_iff_not, Int.not_lt, Int.not_le, gt_iff_lt, ge_iff_le, Bool.or_eq_true, Bool.and_eq_true, Bool.or_eq_false_iff, Bool.and_eq_false_iff, Bool.not_eq_true', Bool.not_eq_false', Int.toNat_natCast, bne_iff_ne, beq_iff_eq, bne_eq_false_iff_eq, beq_eq_false_iff_ne, ne_eq] at c3
        refine .skip ?_
        refine .code ?_
        refine .seq ?_
        refine Wk.rg [0] rfl rfl ?_
        refine asg rfl .no (.u rfl) ?_
        refine .nil ?_
        refine .code ?_
        refine .seq ?_
        refine .seq ?_
        refine Wk.rg [0, 1] rfl rfl ?_
        refine mv rfl .no (.u rfl) ?_
        refine mv rfl .no (.u rfl) ?_
        refine .nil ?_
        refine .code ?_
        refine .block ?_
        refine Wk.lop (α := Nat × BitVec 64) (fun gh => [(5, true, uv .u64 gh.2), (36, true, .int .i64 (gh.1 : Int))]) (fun _ => [])
          (fun gh Gl => (gh.1 ≤ 1) ∧ (gh.2 = if gh.1 = 0 then 0#64 else (xs.getD 0 0).setWidth 64)) (fun gh => 1 - gh.1) (0, 0#64) [(0, true, _), (1, true, _), (35, true, _)] [_]
          (ESub.cons rfl rfl (ESub.cons rfl (by first | rfl | exact evi (by omega)) (ESub.cons rfl rfl (ESub.cons rfl rfl (ESub.cons rfl rfl ESub.nil)))))
          (MSub.cons .here rfl MSub.nil) ?_ ?_
        · refine ⟨?_, ?_⟩
          · (try dsimp only) <;> (first | omega | rfl | assumption | (simp; done))
          · (try dsimp only) <;> (rfl)
        intro gh N0 Gl0 hN0 hGl0 hF0
        obtain ⟨k, m⟩ := gh; dsimp only at hF0 hN0 ⊢
        obtain ⟨hk, em⟩ := hF0
        have hs := hs.mono hGl0
        refine .seq ?_
        refine Wk.rg [0] rfl rfl ?_
        refine cp rfl .no (.u rfl) (.u rfl) rfl ?_
        refine .nil ?_
        refine .code ?_
        refine .seq ?_
        refine .cond rfl (fun c4 => ?_) (fun c4 => ?_)
        · have c4k := c4
          try simp only [decide_eq_true_eq, decide_eq_false_iff_not, Int.not_lt, Int.not_le, gt_iff_lt, ge_iff_le, Bool.or_eq_true, Bool.and_eq_true, Bool.or_eq_false_iff, Bool.and_eq_false_iff, Bool.not_eq_true', Bool.not_eq_false', Int.toNat_natCast, bne_iff_ne, beq_iff_eq, bne_eq_false_iff_eq, beq_eq_false_iff_ne, ne_eq] at c4
          refine .skip ?_
          refine .code ?_
          refine .seq ?_
          refine .block ?_
          refine .seq ?_
          refine Wk.rg [0, 1] rfl rfl ?_
          refine mv rfl .no (.u rfl) ?_
          refine asg rfl .no (.u rfl) ?_
          refine .nil ?_
          refine .code ?_
          refine Wk.rg [0, 1, 2, 3, 4, 5, 6, 7, 8, 9, 10, 11, 12, 13] rfl rfl ?_
          refine mv rfl .no (.u rfl) ?_
          refine mv rfl .no (.u rfl) ?_
          refine nc rfl .no (.u rfl) ?_
          refine fz rfl .no FxVerS.fo145_0 (.u rfl) ?_
          refine ld rfl .no FxVerS.ag36 (.u rfl) (fun _ => Rd.own .here (by first | exact wap_f rfl | rfl)) ?_
          refine mv rfl .no (.u rfl) ?_
          refine ih rfl .no FxVerR.se36 (.u rfl) (.u rfl) (fun _ => by omega) (fun _ => by omega) (fun _ => hs.nn (k := k) (by omega)) ?_
          refine ld rfl .no FxVerR.ag5 (.u rfl) (fun _ => (hs.yat (k) (by omega) (by omega)).rd) ?_
          refine cu (k := .u8) rfl .no rfl FxVerR.cv5_24 (.u rfl) ?_
          refine mv rfl .no (.u rfl) ?_
          refine arn (((8 * k) : Nat) : Int) rfl .no (.u rfl) (.u rfl) rfl (fun _ => by omega) (fun _ => wrap_i64 (by omega) (by omega)) ?_
          refine lw (k := .u64) rfl .no rfl (.u rfl) (.u rfl) (fun _ => by omega) ?_
          refine bw (k := .u64) rfl .no rfl (.u rfl) (.u rfl) rfl ?_
          refine asg rfl .no (.u rfl) ?_
          refine .nil ?_
          refine .blk ?_
          refine .code ?_
          refine Wk.rg [0, 1] rfl rfl ?_
          refine arn (((k + 1) : Nat) : Int) rfl .no (.u rfl) (.u rfl) rfl (fun _ => by omega) (fun _ => wrap_i64 (by omega) (by omega)) ?_
          refine mv rfl .no (.u rfl) ?_
          refine .nil ?_
          refine We.lpo (k + 1, m ||| (xs.getD k 0).setWidth 64 <<< (8 * k)) ?_ ?_ ?_ ?_ ?_
          · exact (ESub.cons rfl rfl (ESub.cons rfl (by first | rfl | exact evi (by omega)) (ESub.cons rfl rfl (ESub.cons rfl rfl (ESub.cons rfl rfl ESub.nil)))))
          · exact (MSub.cons .here rfl MSub.nil)
          · first | omega | (dsimp only; omega)
          · exact hGl0
          · refine ⟨?_, ?_⟩
            · (try dsimp only) <;> (first | omega | rfl | assumption | (simp; done))
            · (try dsimp only) <;> ((obtain rfl : k = 0 := by omega); rw [em, if_pos rfl]; simp)
        · have c4k := c4
          try simp only [decide_eq_true_eq, decide_eq_false_iff_not, Int.not_lt, Int.not_le, gt_iff_lt, ge_iff_le, Bool.or_eq_true, Bool.and_eq_true, Bool.or_eq_false_iff, Bool.and_eq_false_iff, Bool.not_eq_true', Bool.not_eq_false', Int.toNat_natCast, bne_iff_ne, beq_iff_eq, bne_eq_false_iff_eq, beq_eq_false_iff_ne, ne_eq] at c4
          refine .exit ?_
          refine .xcode ?_
          refine .xlp ?_
          refine .xblk ?_
          refine .code ?_
          refine .seq ?_
          refine Wk.rg [0, 1, 2, 3, 4, 5, 6, 7, 8, 9] rfl rfl ?_
          refine mv rfl .no (.u rfl) ?_
          refine mv rfl .no (.u rfl) ?_
          refine nc rfl .no (.u rfl) ?_
          refine fz rfl .no FxVerS.fo145_0 (.u rfl) ?_
          refine ld rfl .no FxVerS.ag36 (.u rfl) (fun _ => Rd.own .here (by first | exact wap_f rfl | rfl)) ?_
          refine mv rfl .no (.u rfl) ?_
          refine kD (1) rfl .no FxVerR.se36 hs (.u rfl) (.u rfl) (fun _ => by omega) (fun _ => by omega) ?_
          intro h59 L59 eL59 lL59 hs59
          have lL59 := lL59 rfl
          refine nc rfl .no (.u rfl) ?_
          refine fz rfl .no FxVerS.fo145_0 (.u rfl) ?_
          refine s1 rfl (.u rfl) (.u rfl) rfl FxVerS.sz36 .here (by first | decide | (simp only [wa_len, ba_len, List.length_append, List.length_cons, List.length_nil]; omega)) (rfl) ?_
          refine .nil ?_
          refine .code ?_
          refine .seq ?_
          refine Wk.rg [0, 1] rfl rfl ?_
          refine mv rfl .no (.u rfl) ?_
          refine asg rfl .no (.u rfl) ?_
          refine .nil ?_
          refine .code ?_
          refine .ret ?_
          refine We.fin Tryd.results55 (.tmp rfl .nil) (MSub.cons .here rfl MSub.nil) ?_
          obtain rfl : k = 1 := by omega
          obtain rfl : e = 0 := by simpa using c1k
          exact ⟨_, L59, 0, h59, rd_byte_ok rfl (by omega) eL59, rfl, by rw [em]; rfl, hs59⟩

theorem rFault_ok (xs : List Y) (e : Int) (s : Sh) (b : Nat) (G : PM) (hp : RdNP G b 0 [s.val xs.length, .int .i64 e]) : Ct Tryd.prog 58 ([.pointer (some ⟨b, 0, none⟩)] : List Value).toArray G [] (fun _ μ' u => μ' = [] ∧ u = .int .i64 e) := by
  refine Ct.of Tryd.func58 rfl Tryd.ntmps58 rfl fun w0 hs0 => ?_
  refine .seq ?_
  refine Wk.rg [0] rfl rfl ?_
  refine asg rfl .no (.u rfl) ?_
  refine .nil ?_
  refine .code ?_
  refine .seq ?_
  refine .seq ?_
  refine Wk.rg [0, 1] rfl rfl ?_
  refine mv rfl .no (.u rfl) ?_
  refine pe rfl .no FxVerS.pt120 (.u rfl) (.u rfl) ?_
  refine .nil ?_
  refine .code ?_
  refine Wk.condF rfl rfl ?_
  refine .skip ?_
  refine .code ?_
  refine .seq ?_
  refine Wk.rg [0, 1, 2, 3, 4] rfl rfl ?_
  refine mv rfl .no (.u rfl) ?_
  refine nc rfl .no (.u rfl) ?_
  refine fz rfl .no FxVerS.fo145_1 (.u rfl) ?_
  refine ld rfl .no FxVerS.ag39 (.u rfl) (fun _ => (hp.z rfl).rd) ?_
  refine asg rfl .no (.u rfl) ?_
  refine .nil ?_
  refine .code ?_
  refine .ret ?_
  refine We.fin0 Tryd.results58 (.tmp rfl .nil) ?_
  exact ⟨rfl, rfl⟩

theorem rLeft_ok (xs : List Y) (e : Int) (s : Sh) (b : Nat) (G : PM) (hp : RdNP G b 0 [s.val xs.length, .int .i64 e]) : Ct Tryd.prog 75 ([.pointer (some ⟨b, 0, none⟩)] : List Value).toArray G [] (fun _ μ' u => μ' = [] ∧ u = .int .i64 (xs.length : Int)) := by
  refine Ct.of Tryd.func75 rfl Tryd.ntmps75 rfl fun w0 hs0 => ?_
  refine .seq ?_
  refine Wk.rg [0] rfl rfl ?_
  refine asg rfl .no (.u rfl) ?_
  refine .nil ?_
  refine .code ?_
  refine .seq ?_
  refine .seq ?_
  refine Wk.rg [0, 1] rfl rfl ?_
  refine mv rfl .no (.u rfl) ?_
  refine pe rfl .no FxVerS.pt120 (.u rfl) (.u rfl) ?_
  refine .nil ?_
  refine .code ?_
  refine Wk.condF rfl rfl ?_
  refine .skip ?_
  refine .code ?_
  refine .seq ?_
  refine Wk.rg [0, 1, 2, 3, 4, 5] rfl rfl ?_
  refine mv rfl .no (.u rfl) ?_
  refine nc rfl .no (.u rfl) ?_
  refine fz rfl .no FxVerS.fo145_0 (.u rfl) ?_
  refine ld rfl .no FxVerS.ag36 (.u rfl) (fun _ => (hp.z rfl).rd) ?_
  refine ln rfl .no FxVerR.sn36 (.u rfl) ?_
  refine asg rfl .no (.u rfl) ?_
  refine .nil ?_
  refine .code ?_
  refine .ret ?_
  refine We.fin0 Tryd.results75 (.tmp rfl .nil) ?_
  exact ⟨rfl, rfl⟩

theorem rEnd_ok (xs : List Y) (e : Int) (s : Sh) (b : Nat) (G : PM) (hp : RdNP G b 0 [s.val xs.length, .int .i64 e]) : Ct Tryd.prog 60 ([.pointer (some ⟨b, 0, none⟩)] : List Value).toArray G [] (fun _ μ' u => μ' = [] ∧ u = .int .i64 (endI xs e)) := by
  refine Ct.of Tryd.func60 rfl Tryd.ntmps60 rfl fun w0 hs0 => ?_
  refine .seq ?_
  refine Wk.rg [0] rfl rfl ?_
  refine asg rfl .no (.u rfl) ?_
  refine .nil ?_
  refine .code ?_
  refine .seq ?_
  refine .seq ?_
  refine Wk.rg [0, 1, 2, 3, 4, 5, 6, 7] rfl rfl ?_
  refine mv rfl .no (.u rfl) ?_
  refine kv rfl .no Fx.go58 (Eva.cons (.u rfl) Eva.nil) (fun _ => rFault_ok xs e s b _ hp) ?_
  refine cp rfl .no (.u rfl) (.u rfl) rfl ?_
  refine mv rfl .no (.u rfl) ?_
  refine mv rfl (.t rfl rfl) (.u rfl) ?_
  refine kv rfl (.t rfl rfl) Fx.go75 (Eva.cons (.s rfl) Eva.nil) (fun hc => rLeft_ok xs e s b _ hp) ?_
  refine cp rfl (.t rfl rfl) (.s rfl) (.u rfl) rfl ?_
  refine pkA rfl .no (.u rfl) (.s rfl) ?_
  refine .nil ?_
  refine .code ?_
  refine .cond rfl (fun c1 => ?_) (fun c1 => ?_)
  · have c1k := c1
    try simp only [decide_eq_true_eq, decide_eq_false_iff_not, Int.not_lt, Int.not_le, gt_iff_lt, ge_iff_le, Bool.or_eq_true, Bool.and_eq_true, Bool.or_eq_false_iff, Bool.not_eq_true', Bool.not_eq_false', Int.toNat_natCast, bne_iff_ne, beq_iff_eq, bne_eq_false_iff_eq, beq_eq_false_iff_ne, ne_eq] at c1
    refine .seq ?_
    refine Wk.rg [0] rfl rfl ?_
    refine asg rfl .no (.u rfl) ?_
    refine .nil ?_
    refine .code ?_
    refine .ret ?_
    refine We.fin0 Tryd.results60 (.tmp rfl .nil) ?_
    exact ⟨rfl, congrArg (Value.int .i64) (by unfold endI; rw [if_pos (by simpa using c1k)])⟩
  · have c1k := c1
    try simp only [decide_eq_true_eq, decide_eq_false_iff_not, Int.not_lt, Int.not_le, gt_iff_lt, ge_iff_le, Bool.or_eq_true, Bool.and_eq_true, Bool.or_eq_false_iff, Bool.not_eq_true', Bool.not_eq_false', Int.toNat_natCast, bne_iff_ne, beq_iff_eq, bne_eq_false_iff_eq, beq_eq_false_iff_ne, ne_eq] at c1
    refine .skip ?_
    refine .code ?_
    refine .seq ?_
    refine Wk.rg [0, 1, 2] rfl rfl ?_
    refine mv rfl .no (.u rfl) ?_
    refine kv rfl .no Fx.go58 (Eva.cons (.u rfl) Eva.nil) (fun _ => rFault_ok xs e s b _ hp) ?_
    refine asg rfl .no (.u rfl) ?_
    refine .nil ?_
    refine .code ?_
    refine .ret ?_
    refine We.fin0 Tryd.results60 (.tmp rfl .nil) ?_
    exact ⟨rfl, congrArg (Value.int .i64) (by unfold endI; rw [if_neg (by simpa using c1k)])⟩

end Go.Proofs.YtbdnclpopappeaaDoor

namespace Go.Proofs.YtbdnclpopappeaaDoor
set_option linter.unusedSimpArgs false
set_option linter.unusedVariables false
open Go.Tan Go.RowKit

namespace Fx
theorem fo26_0 : fOff Tryd.prog 26 0 = some 0 := by kernel_rfl
theorem fo26_1 : fOff Tryd.prog 26 1 = some 1 := by kernel_rfl
theorem fo26_2 : fOff Tryd.prog 26 2 = some 2 := by kernel_rfl
theorem ag24 : aggN Tryd.prog 24 = some none := by kernel_rfl
theorem zq113 : zrL Tryd.prog 113 = some (ba 12 (fun _ => 0#8)) := by kernel_rfl
theorem sz113 : szT Tryd.prog 113 = some 12 := by kernel_rfl
theorem fo26_3 : fOff Tryd.prog 26 3 = some 3 := by kernel_rfl
theorem fo26_4 : fOff Tryd.prog 26 4 = some 4 := by kernel_rfl
theorem bp103_0_1_2 : bPl Tryd.prog 103 [0, 1, 2] = some ([.int .u64 0, .int .u64 0, .int .u64 0], [(0, 1), (1, 1), (2, 1)]) := by kernel_rfl
theorem ar103 : arE Tryd.prog 103 = some (3, 24, 1) := by kernel_rfl
end Fx
theorem nRight_ok (h : Hd) (G : PM) : Ct Tryd.prog 20 ([.agg ([V h.kind, V h.level, uv .u64 h.gen, uv .u64 h.epoch, uv .u64 h.num] : List Value).toArray] : List Value).toArray G [] (fun _ μ' u => μ' = [] ∧ u = .bool h.right) := by
  refine Ct.of Tryd.func20 rfl Tryd.ntmps20 rfl fun w0 hs0 => ?_
  refine .seq ?_
  refine Wk.rg [0, 1] rfl rfl ?_
  refine bx rfl (.u rfl) rfl ?_; intro b1
  refine asg rfl .no (.u rfl) ?_
  refine .nil ?_
  refine .code ?_
  refine .seq ?_
  refine .seq ?_
  refine Wk.rg [0, 1] rfl rfl ?_
  refine fz rfl .no Fx.fo26_0 (.u rfl) ?_
  refine ld rfl .no Fx.ag5 (.u rfl) (fun _ => Rd.own .here (by first | exact wap_f rfl | rfl)) ?_
  refine .nil ?_
  refine .code ?_
  refine .block ?_
  refine .seq ?_
  refine Wk.rg [0, 1] rfl rfl ?_
  refine cp rfl .no (.u rfl) (.u rfl) rfl ?_
  refine asg rfl .no (.u rfl) ?_
  refine .nil ?_
  refine .code ?_
  refine .cond rfl (fun c1 => ?_) (fun c1 => ?_)
  · have c1k := c1
    try simp only [decide_eq_true_eq, decide_eq_false_iff_not, Int.not_lt, Int.not_le, gt_iff_lt, ge_iff_le, Bool.or_eq_true, Bool.and_eq_true, Bool.or_eq_false_iff, Bool.not_eq_true', Bool.not_eq_false', Int.toNat_natCast, bne_iff_ne, beq_iff_eq, bne_eq_false_iff_eq, beq_eq_false_iff_ne, ne_eq] at c1
    refine .seq ?_
    refine Wk.rg [0, 1, 2, 3] rfl rfl ?_
    refine fz rfl .no Fx.fo26_1 (.u rfl) ?_
    refine ld rfl .no Fx.ag5 (.u rfl) (fun _ => Rd.own .here (by first | exact wap_f rfl | rfl)) ?_
    refine cp rfl .no (.u rfl) (.u rfl) rfl ?_
    refine asg rfl .no (.u rfl) ?_
    refine .nil ?_
    refine .code ?_
    refine .ret ?_
    refine We.fin0 Tryd.results20 (.tmp rfl .nil) ?_
    exact ⟨rfl, congrArg Value.bool (Hd.right2 c1).symm⟩
  · have c1k := c1
    try simp only [decide_eq_true_eq, decide_eq_false_iff_not, Int.not_lt, Int.not_le, gt_iff_lt, ge_iff_le, Bool.or_eq_true, Bool.and_eq_true, Bool.or_eq_false_iff, Bool.not_eq_true', Bool.not_eq_false', Int.toNat_natCast, bne_iff_ne, beq_iff_eq, bne_eq_false_iff_eq, beq_eq_false_iff_ne, ne_eq] at c1
    refine .seq ?_
    refine .seq ?_
    refine Wk.rg [0, 1] rfl rfl ?_
    refine cp rfl .no (.u rfl) (.u rfl) rfl ?_
    refine asg rfl .no (.u rfl) ?_
    refine .nil ?_
    refine .code ?_
    refine .cond rfl (fun c2 => ?_) (fun c2 => ?_)
    · have c2k := c2
      try simp only [decide_eq_true_eq, decide_eq_false_iff_not, Int.not_lt, Int.not_le, gt_iff_lt, ge_iff_le, Bool.or_eq_true, Bool.and_eq_true, Bool.or_eq_false_iff, Bool.not_eq_true', Bool.not_eq_false', Int.toNat_natCast, bne_iff_ne, beq_iff_eq, bne_eq_false_iff_eq, beq_eq_false_iff_ne, ne_eq] at c2
      refine .skip ?_
      refine .code ?_
      refine Wk.condT rfl c2k ?_
      refine .seq ?_
      refine Wk.rg [0, 1, 2, 3, 4, 5, 6, 7, 8] rfl rfl ?_
      refine fz rfl .no Fx.fo26_1 (.u rfl) ?_
      refine ld rfl .no Fx.ag5 (.u rfl) (fun _ => Rd.own .here (by first | exact wap_f rfl | rfl)) ?_
      refine cp rfl .no (.u rfl) (.u rfl) rfl ?_
      refine mv rfl .no (.u rfl) ?_
      refine fz rfl (.t rfl rfl) Fx.fo26_2 (.u rfl) ?_
      refine ld rfl (.t rfl rfl) Fx.ag24 (.s rfl) (fun hc => Rd.own .here (by first | exact wap_f rfl | rfl)) ?_
      refine cp rfl (.t rfl rfl) (.s rfl) (.u rfl) rfl ?_
      refine pkA rfl .no (.u rfl) (.s rfl) ?_
      refine asg rfl .no (.u rfl) ?_
      refine .nil ?_
      refine .code ?_
      refine .ret ?_
      refine We.fin0 Tryd.results20 (.tmp rfl .nil) ?_
      exact ⟨rfl, congrArg Value.bool (Hd.right1 c2).symm⟩
    · have c2k := c2
      try simp only [decide_eq_true_eq, decide_eq_false_iff_not, Int.not_lt, Int.not_le, gt_iff_lt, ge_iff_le, Bool.or_eq_true, Bool.and_eq_true, Bool.or_eq_false_iff, Bool.not_eq_true', Bool.not_eq_false', Int.toNat_natCast, bne_iff_ne, beq_iff_eq, bne_eq_false_iff_eq, beq_eq_false_iff_ne, ne_eq] at c2
      refine Wk.rg [0, 1] rfl rfl ?_
      refine cp rfl .no (.u rfl) (.u rfl) rfl ?_
      refine asg rfl .no (.u rfl) ?_
      refine .nil ?_
      refine .code ?_
      refine .cond rfl (fun c3 => ?_) (fun c3 => ?_)
      · have c3k := c3
        try simp only [decide_eq_true_eq, decide_eq_false_iff_not, Int.not_lt, Int.not_le, gt_iff_lt, ge_iff_le, Bool.or_eq_true, Bool.and_eq_true, Bool.or_eq_false_iff, Bool.not_eq_true', Bool.not_eq_false', Int.toNat_natCast, bne_iff_ne, beq_iff_eq, bne_eq_false_iff_eq, beq_eq_false_iff_ne, ne_eq] at c3
        refine .seq ?_
        refine Wk.rg [0, 1, 2, 3, 4, 5, 6, 7, 8] rfl rfl ?_
        refine fz rfl .no Fx.fo26_1 (.u rfl) ?_
        refine ld rfl .no Fx.ag5 (.u rfl) (fun _ => Rd.own .here (by first | exact wap_f rfl | rfl)) ?_
        refine cp rfl .no (.u rfl) (.u rfl) rfl ?_
        refine mv rfl .no (.u rfl) ?_
        refine fz rfl (.t rfl rfl) Fx.fo26_2 (.u rfl) ?_
        refine ld rfl (.t rfl rfl) Fx.ag24 (.s rfl) (fun hc => Rd.own .here (by first | exact wap_f rfl | rfl)) ?_
        refine cp rfl (.t rfl rfl) (.s rfl) (.u rfl) rfl ?_
        refine pkA rfl .no (.u rfl) (.s rfl) ?_
        refine asg rfl .no (.u rfl) ?_
        refine .nil ?_
        refine .code ?_
        refine .ret ?_
        refine We.fin0 Tryd.results20 (.tmp rfl .nil) ?_
        exact ⟨rfl, congrArg Value.bool (Hd.right3 c3).symm⟩
      · have c3k := c3
        try simp only [decide_eq_true_eq, decide_eq_false_iff_not, Int.not_lt, Int.not_le, gt_iff_lt, ge_iff_le, Bool.or_eq_true, Bool.and_eq_true, Bool.or_eq_false_iff, Bool.not_eq_true', Bool.not_eq_false', Int.toNat_natCast, bne_iff_ne, beq_iff_eq, bne_eq_false_iff_eq, beq_eq_false_iff_ne, ne_eq] at c3
        refine .skip ?_
        refine .blk ?_
        refine .code ?_
        refine .seq ?_
        refine Wk.rg [0] rfl rfl ?_
        refine asg rfl .no (.u rfl) ?_
        refine .nil ?_
        refine .code ?_
        refine .ret ?_
        refine We.fin0 Tryd.results20 (.tmp rfl .nil) ?_
        exact ⟨rfl, congrArg Value.bool (Hd.right0 c2 c1 c3).symm⟩

theorem Nonce_ok (n : BitVec 64) (G : PM) : Ct Tryd.prog 51 ([uv .u64 n] : List Value).toArray G [] (fun _ μ' u => μ' = [] ∧ u = .agg (ba 12 (nonceF n)).toArray) := by
  refine Ct.of Tryd.func51 rfl Tryd.ntmps51 rfl fun w0 hs0 => ?_
  refine .seq ?_
  refine Wk.rg [0] rfl rfl ?_
  refine al rfl Fx.zq113 ?_; intro b2
  refine .nil ?_
  refine .code ?_
  refine .seq ?_
  refine Wk.rg [0] rfl rfl ?_
  refine al rfl Fx.zq113 ?_; intro b3
  refine .nil ?_
  refine .code ?_
  refine .seq ?_
  refine .seq ?_
  refine Wk.rg [0] rfl rfl ?_
  refine mv rfl .no (.u rfl) ?_
  refine .nil ?_
  refine .code ?_
  refine .block ?_
  refine Wk.lop (α := Nat × (Nat → Y)) (fun gh => [(5, true, .int .i64 (gh.1 : Int))]) (fun gh => [.blk b3 (cl (ba 12 gh.2) 113)])
    (fun gh Gl => (gh.1 ≤ 8) ∧ (gh.2 = outs (nonceF n) gh.1)) (fun gh => 8 - gh.1) (0, fun _ => 0#8) [(0, true, _), (2, true, _), (3, true, _)] [_]
    (ESub.cons rfl (by first | rfl | exact evi (by omega)) (ESub.cons rfl rfl (ESub.cons rfl rfl (ESub.cons rfl rfl ESub.nil))))
    (MSub.cons .here rfl (MSub.cons .here rfl MSub.nil)) ?_ ?_
  · refine ⟨?_, ?_⟩
    · (try dsimp only) <;> (first | omega | rfl | assumption | (simp; done))
    · (try dsimp only) <;> (first | omega | rfl | assumption | (simp; done))
  intro gh N0 Gl0 hN0 hGl0 hF0
  obtain ⟨k, f⟩ := gh; dsimp only at hF0 hN0 ⊢
  obtain ⟨hk, ef⟩ := hF0
  refine .seq ?_
  refine Wk.rg [0] rfl rfl ?_
  refine cp rfl .no (.u rfl) (.u rfl) rfl ?_
  refine .nil ?_
  refine .code ?_
  refine .seq ?_
  refine .cond rfl (fun c1 => ?_) (fun c1 => ?_)
  · have c1k := c1
    try simp only [decide_eq_true_eq, decide_eq_false_iff_not, Int.not_lt, Int.not_le, gt_iff_lt, ge_iff_le, Bool.or_eq_true, Bool.and_eq_true, Bool.or_eq_false_iff, Bool.not_eq_true', Bool.not_eq_false', Int.toNat_natCast, bne_iff_ne, beq_iff_eq, bne_eq_false_iff_eq, beq_eq_false_iff_ne, ne_eq] at c1
    refine .skip ?_
    refine .code ?_
    refine .seq ?_
    refine .block ?_
    refine .seq ?_
    refine Wk.rg [0, 1] rfl rfl ?_
    refine mv rfl .no (.u rfl) ?_
    refine asg rfl .no (.u rfl) ?_
    refine .nil ?_
    refine .code ?_
    refine Wk.rg [0, 1, 2, 3, 4, 5, 6, 7] rfl rfl ?_
    refine mv rfl .no (.u rfl) ?_
    refine mv rfl .no (.u rfl) ?_
    refine mv rfl .no (.u rfl) ?_
    refine arn (((8 * k) : Nat) : Int) rfl .no (.u rfl) (.u rfl) rfl (fun _ => by omega) (fun _ => wrap_i64 (by omega) (by omega)) ?_
    refine rw' (k := .u64) rfl .no (.u rfl) (.u rfl) (fun _ => by omega) ?_
    refine cu (k := .u64) rfl .no rfl Fx.cv24_5 (.u rfl) ?_
    refine iA rfl .no Fx.ar113 (.u rfl) (.u rfl) (fun _ => by omega) (fun _ => by omega) ?_
    refine s1 rfl (.u rfl) (.u rfl) rfl Fx.sz5 .here (by first | decide | (simp only [wa_len, ba_len, List.length_append, List.length_cons, List.length_nil]; omega)) (by first | exact wa_set1 (k) (by omega) | exact ba_set1 (k) (by omega) | exact wap_set1 (k) (by omega) (by omega) | rfl) ?_
    refine .nil ?_
    refine .blk ?_
    refine .code ?_
    refine Wk.rg [0, 1] rfl rfl ?_
    refine arn (((k + 1) : Nat) : Int) rfl .no (.u rfl) (.u rfl) rfl (fun _ => by omega) (fun _ => wrap_i64 (by omega) (by omega)) ?_
    refine mv rfl .no (.u rfl) ?_
    refine .nil ?_
    refine We.lpo (k + 1, upd f k ((n >>> (8 * k)).setWidth 8)) ?_ ?_ ?_ ?_ ?_
    · exact (ESub.cons rfl (by first | rfl | exact evi (by omega)) (ESub.cons rfl rfl (ESub.cons rfl rfl (ESub.cons rfl rfl ESub.nil))))
    · exact (MSub.cons .here rfl (MSub.cons .here rfl MSub.nil))
    · first | omega | (dsimp only; omega)
    · exact hGl0
    · refine ⟨?_, ?_⟩
      · (try dsimp only) <;> (first | omega | rfl | assumption | (simp; done))
      · (try dsimp only) <;> (exact outs_step1 ef (by unfold nonceF; rw [if_pos (by omega)]))
  · have c1k := c1
    try simp only [decide_eq_true_eq, decide_eq_false_iff_not, Int.not_lt, Int.not_le, gt_iff_lt, ge_iff_le, Bool.or_eq_true, Bool.and_eq_true, Bool.or_eq_false_iff, Bool.not_eq_true', Bool.not_eq_false', Int.toNat_natCast, bne_iff_ne, beq_iff_eq, bne_eq_false_iff_eq, beq_eq_false_iff_ne, ne_eq] at c1
    refine .exit ?_
    refine .xcode ?_
    refine .xlp ?_
    refine .xblk ?_
    refine .code ?_
    refine .seq ?_
    refine Wk.rg [0, 1] rfl rfl ?_
    refine lA rfl .no Fx.ag113 (.u rfl) (fun _ => RdN.own .here) (fun _ => (by first | exact (ba_len _ _).trans (ba_len _ _).symm | exact (wa_len _ _).trans (wa_len _ _).symm | exact ba_len _ _ | exact wa_len _ _ | rfl | (simp only [wa_len, ba_len, List.length_append, List.length_cons, List.length_nil]))) ?_
    refine sw rfl (.u rfl) (.u rfl) rfl Fx.sz113 (.there .here) (by first | exact (ba_len _ _).trans (ba_len _ _).symm | exact (wa_len _ _).trans (wa_len _ _).symm | exact ba_len _ _ | exact wa_len _ _ | rfl | (simp only [wa_len, ba_len, List.length_append, List.length_cons, List.length_nil])) (by first | exact ba_one _ _ | exact wa_one _ _ | exact one_V _ | decide | exact one_app (wa_one _ _) (by simp [Value.oneCell'])) ?_
    refine .nil ?_
    refine .code ?_
    refine .ret ?_
    refine We.fin0 Tryd.results51 (.cell rfl (fun w hw => run_loadVarN Fx.ag113 (RdN.own .here) ((by first | exact (ba_len _ _).trans (ba_len _ _).symm | exact (wa_len _ _).trans (wa_len _ _).symm | exact ba_len _ _ | exact wa_len _ _ | rfl | (simp only [wa_len, ba_len, List.length_append, List.length_cons, List.length_nil]))) hw) .nil) ?_
    obtain rfl : k = 8 := by omega
    exact ⟨rfl, by rw [ef, ba_congr (fun i hi => nonce_outs n hi)]; rfl⟩

theorem nLay_ok (h : Hd) (G : PM) : Ct Tryd.prog 15 ([.agg ([V h.kind, V h.level, uv .u64 h.gen, uv .u64 h.epoch, uv .u64 h.num] : List Value).toArray] : List Value).toArray G [] (PR 5 (fun L => L = headL h)) := by
  refine Ct.of Tryd.func15 rfl Tryd.ntmps15 rfl fun w0 hs0 => ?_
  refine .seq ?_
  refine Wk.rg [0, 1] rfl rfl ?_
  refine bx rfl (.u rfl) rfl ?_; intro b1
  refine asg rfl .no (.u rfl) ?_
  refine .nil ?_
  refine .code ?_
  refine .seq ?_
  refine Wk.rg [0, 1, 2, 3, 4, 5, 6, 7, 8] rfl rfl ?_
  refine Go.Tan.bN rfl Fx.se36 Fx.zv5 (Evp.cons (.u rfl) (Evp.cons (.u rfl) (Evp.cons (.u rfl) (Evp.cons (.u rfl) Evp.nil)))) rfl (by decide) (by simp [Value.oneCell', Sh.val]) ?_; intro b6
  refine mkS [116#8, 97#8, 110#8, 116#8] rfl rfl Fx.cst36 (.u rfl) .here rfl rfl (by decide) ?_; intro G7 hG7 hs7
  refine fz rfl .no Fx.fo26_0 (.u rfl) ?_
  refine ld rfl .no Fx.ag5 (.u rfl) (fun _ => Rd.own .here (by first | exact wap_f rfl | rfl)) ?_
  refine fz rfl .no Fx.fo26_1 (.u rfl) ?_
  refine ld rfl .no Fx.ag5 (.u rfl) (fun _ => Rd.own .here (by first | exact wap_f rfl | rfl)) ?_
  refine Go.Tan.bN rfl Fx.se36 Fx.zv5 (Evp.cons (.u rfl) (Evp.cons (.u rfl) Evp.nil)) rfl (by decide) (one2 rfl rfl) ?_; intro b12
  refine apF (.inr rfl) rfl Fx.se36 Fx.zv5 (.u rfl) (.u rfl) hs7 rfl (Sc.blk (ys := [h.kind, h.level]) .here rfl rfl) (by (try simp only [List.length_cons, List.length_nil]); omega) (by (try simp only [List.length_cons, List.length_nil]); omega) (by (try simp only [List.length_cons, List.length_nil]); omega) ?_; intro v13 L13 ov13 eL13
  have lL13 : L13.length = [116#8, 97#8, 110#8, 116#8].length + 2 := by rw [eL13, List.length_append]; first | rfl | simp [yl_len]
  refine asg rfl .no (.u rfl) ?_
  refine .nil ?_
  refine .code ?_
  refine .seq ?_
  refine .seq ?_
  refine Wk.rg [0, 1, 2, 3, 4, 5, 6, 7] rfl rfl ?_
  refine fz rfl .no Fx.fo26_2 (.u rfl) ?_
  refine ld rfl .no Fx.ag24 (.u rfl) (fun _ => Rd.own (.there (.there .here)) (by first | exact wap_f rfl | rfl)) ?_
  refine fz rfl .no Fx.fo26_3 (.u rfl) ?_
  refine ld rfl .no Fx.ag24 (.u rfl) (fun _ => Rd.own (.there (.there .here)) (by first | exact wap_f rfl | rfl)) ?_
  refine fz rfl .no Fx.fo26_4 (.u rfl) ?_
  refine ld rfl .no Fx.ag24 (.u rfl) (fun _ => Rd.own (.there (.there .here)) (by first | exact wap_f rfl | rfl)) ?_
  refine bC rfl .no Fx.bp103_0_1_2 (.cons (.u rfl) rfl (.cons (.u rfl) rfl (.cons (.u rfl) rfl .nil))) rfl ?_
  refine mv rfl .no (.u rfl) ?_
  refine .nil ?_
  refine .code ?_
  refine .block ?_
  refine Wk.lop (α := Nat × Value × List Y) (fun gh => [(3, true, gh.2.1), (21, true, .int .i64 (gh.1 : Int))]) (fun gh => [rB gh.2.1 5 gh.2.2])
    (fun gh Gl => (gh.1 ≤ 3) ∧ (gh.2.2 = h.some gh.1)) (fun gh => 3 - gh.1) (0, _, _) [(20, true, _)] [_, _]
    (ESub.cons rfl rfl (ESub.cons rfl (by first | rfl | exact evi (by omega)) (ESub.cons rfl rfl ESub.nil)))
    (MSub.cons .here rfl (MSub.cons .here rfl (MSub.cons .here rfl MSub.nil))) ?_ ?_
  · refine ⟨?_, ?_⟩
    · (try dsimp only) <;> (first | omega | rfl | assumption | (simp; done))
    · (try dsimp only) <;> (rw [eL13]; rfl)
  intro gh N0 Gl0 hN0 hGl0 hF0
  obtain ⟨k, v, L⟩ := gh; dsimp only at hF0 hN0 ⊢
  obtain ⟨hk, eL⟩ := hF0
  have hs7 := hs7.mono hGl0
  have lL : L.length = 6 + 8 * k := by rw [eL, Hd.some_len]
  refine .seq ?_
  refine Wk.rg [0] rfl rfl ?_
  refine cp rfl .no (.u rfl) (.u rfl) rfl ?_
  refine .nil ?_
  refine .code ?_
  refine .seq ?_
  refine .cond rfl (fun c1 => ?_) (fun c1 => ?_)
  · have c1k := c1
    try simp only [decide_eq_true_eq, decide_eq_false_iff_not, Int.not_lt, Int.not_le, gt_iff_lt, ge_iff_le, Bool.or_eq_true, Bool.and_eq_true, Bool.or_eq_false_iff, Bool.not_eq_true', Bool.not_eq_false', Int.toNat_natCast, bne_iff_ne, beq_iff_eq, bne_eq_false_iff_eq, beq_eq_false_iff_ne, ne_eq] at c1
    refine .skip ?_
    refine .code ?_
    refine .seq ?_
    refine .block ?_
    refine .seq ?_
    refine Wk.rg [0, 1] rfl rfl ?_
    refine ix rfl .no Fx.ar103 Fx.ag24 (.u rfl) (.u rfl) (fun _ => by omega) (fun _ => by omega) (fun _ => Hd.three_at (by omega)) ?_
    refine asg rfl .no (.u rfl) ?_
    refine .nil ?_
    refine .code ?_
    refine wk_fb .here (by first | (intro b hb; cases hb; done) | simp [keys, Res.keys]) ?_; intro GfR13 hR13 hleR13 evR13 hsR13; subst evR13
    have hs7 := hs7.mono hleR13
    refine Wk.rg [0, 1, 2, 3] rfl rfl ?_
    refine mv rfl .no (.u rfl) ?_
    refine mv rfl .no (.u rfl) ?_
    refine kc rfl Fx.go32 (Eva.cons (.u rfl) (Eva.cons (.u rfl) (Eva.cons (.u rfl) Eva.nil))) (Ct.rowc (Fix_ok L _ _ 8 _ hsR13 (by omega) (by decide))) ?_
    rintro v26 G26 μ26 hG26 ⟨L26, ov26, eL26, rfl⟩
    have hs7 := hs7.mono hG26
    have hsR13 := hsR13.mono hG26
    refine asg rfl .no (.u rfl) ?_
    refine .nil ?_
    refine .blk ?_
    refine .code ?_
    refine Wk.rg [0, 1] rfl rfl ?_
    refine arn (((k + 1) : Nat) : Int) rfl .no (.u rfl) (.u rfl) rfl (fun _ => by omega) (fun _ => wrap_i64 (by omega) (by omega)) ?_
    refine mv rfl .no (.u rfl) ?_
    refine .nil ?_
    refine We.lpo (k + 1, v26, L26) ?_ ?_ ?_ ?_ ?_
    · exact (ESub.cons rfl rfl (ESub.cons rfl (by first | rfl | exact evi (by omega)) (ESub.cons rfl rfl ESub.nil)))
    · exact (MSub.cons .here rfl (MSub.cons .here rfl (MSub.cons .here rfl MSub.nil)))
    · first | omega | (dsimp only; omega)
    · exact ((hGl0).trans hleR13).trans hG26
    · refine ⟨?_, ?_⟩
      · (try dsimp only) <;> (first | omega | rfl | assumption | (simp; done))
      · (try dsimp only) <;> (rw [eL26, eL, Hd.some_succ]; rfl)
  · have c1k := c1
    try simp only [decide_eq_true_eq, decide_eq_false_iff_not, Int.not_lt, Int.not_le, gt_iff_lt, ge_iff_le, Bool.or_eq_true, Bool.and_eq_true, Bool.or_eq_false_iff, Bool.not_eq_true', Bool.not_eq_false', Int.toNat_natCast, bne_iff_ne, beq_iff_eq, bne_eq_false_iff_eq, beq_eq_false_iff_ne, ne_eq] at c1
    refine .exit ?_
    refine .xcode ?_
    refine .xlp ?_
    refine .xblk ?_
    refine .code ?_
    refine .seq ?_
    refine Wk.rg [0, 1] rfl rfl ?_
    refine mv rfl .no (.u rfl) ?_
    refine asg rfl .no (.u rfl) ?_
    refine .nil ?_
    refine .code ?_
    refine .ret ?_
    refine We.fin Tryd.results15 (.tmp rfl .nil) (MSub.cons .here rfl MSub.nil) ?_
    obtain rfl : k = 3 := by omega
    exact ⟨L, by rw [eL, Hd.some_all], rfl⟩

theorem mac1_ok {G : PM} {b T : Nat} {hk h1 : Sh} {key L1 : List Y} (hle : PM.le G (G.add b (cl [h1.val L1.length] T))) (hsk : SlR G 1 encY hk key) (hs : SlR G 1 encY h1 L1) (hK : RdNP G 0 0 (wa 64 kW)) (hlk : key.length ≤ 140737488351232) (hl : L1.length ≤ 1000000000000000) :
    Ct Tryd.prog 80 ([hk.val key.length, .slice (some ⟨b, 0, none⟩) 1 1] : List Value).toArray (G.add b (cl [h1.val L1.length] T)) [] (fun _ μ' u => μ' = [] ∧ u = .agg (ba 32 (macL key L1)).toArray) := by
  have h := macSum_ok key hk [(h1, L1)] ⟨some ⟨b, 0, none⟩, 1⟩ _ (hsk.mono hle) (SlP.one hle hs) (hK.mono hle) hlk (by simpa [catL] using hl) (by simp)
  rw [show catL [(h1, L1)] = L1 by simp [catL]] at h
  exact h
theorem Extract_ok (salt : List Y) (hk : Sh) (xs : List Y) (h : Sh) (G : PM) (hsk : SlR G 1 encY hk salt) (hs : SlR G 1 encY h xs) (hK : RdNP G 0 0 (wa 64 kW)) (hlk : salt.length ≤ 140737488351232) (hl : xs.length ≤ 1000000000000000) : Ct Tryd.prog 67 ([hk.val salt.length, h.val xs.length] : List Value).toArray G [] (fun _ μ' u => μ' = [] ∧ u = .agg (ba 32 (macL salt xs)).toArray) := by
  refine Ct.of Tryd.func67 rfl Tryd.ntmps67 rfl fun w0 hs0 => ?_
  refine .seq ?_
  refine Wk.rg [0] rfl rfl ?_
  refine al rfl Fx.zq23 ?_; intro b4
  refine .nil ?_
  refine .code ?_
  refine .seq ?_
  refine Wk.rg [0, 1, 2, 3, 4] rfl rfl ?_
  refine mv rfl .no (.u rfl) ?_
  refine mv rfl .no (.u rfl) ?_
  refine Go.Tan.b1 rfl Fx.se56 Fx.zv36 (.u rfl) rfl rfl (by decide) ?_; intro b7
  refine kp rfl .no Fx.go80 (Eva.cons (.u rfl) (Eva.cons (.u rfl) Eva.nil)) (Gp.add .here Gp.nil) (fun _ hle hq => mac1_ok hle hsk hs hK hlk hl) ?_
  refine sw rfl (.u rfl) (.u rfl) rfl Fx.sz23 (.there .here) (by first | exact (ba_len _ _).trans (ba_len _ _).symm | exact (wa_len _ _).trans (wa_len _ _).symm | exact ba_len _ _ | exact wa_len _ _ | rfl | (simp only [wa_len, ba_len, List.length_append, List.length_cons, List.length_nil])) (by first | exact ba_one _ _ | exact wa_one _ _ | exact one_V _ | decide | exact one_app (wa_one _ _) (by simp [Value.oneCell'])) ?_
  refine .nil ?_
  refine .code ?_
  refine .ret ?_
  refine We.fin0 Tryd.results67 (.cell rfl (fun w hw => run_loadVarN Fx.ag23 (RdN.own .here) ((by first | exact (ba_len _ _).trans (ba_len _ _).symm | exact (wa_len _ _).trans (wa_len _ _).symm | exact ba_len _ _ | exact wa_len _ _ | rfl | (simp only [wa_len, ba_len, List.length_append, List.length_cons, List.length_nil]))) hw) .nil) ?_
  exact ⟨rfl, rfl⟩

end Go.Proofs.YtbdnclpopappeaaDoor

namespace Go.Proofs.YtbdnclpopappeaaDoor
set_option linter.unusedSimpArgs false
set_option linter.unusedVariables false
open Go.Tan Go.RowKit

theorem SlP.three {G : PM} {b T : Nat} {h1 h2 h3 : Sh} {L1 L2 L3 : List Y} (hle : PM.le G (G.add b (cl [h1.val L1.length, h2.val L2.length, h3.val L3.length] T))) (hs : SlR G 1 encY h1 L1) (hs2 : SlR G 1 encY h2 L2) (hs3 : SlR G 1 encY h3 L3) :
    SlP (G.add b (cl [h1.val L1.length, h2.val L2.length, h3.val L3.length] T)) ⟨some ⟨b, 0, none⟩, 3⟩ [(h1, L1), (h2, L2), (h3, L3)] :=
  ⟨SlR.ofBlk (T := T) (PM.add_same _ _ _) (fun _ _ => rfl) (by simp), fun p hp => by
    simp only [List.mem_cons, List.not_mem_nil, or_false] at hp
    rcases hp with rfl | rfl | rfl
    · exact hs.mono hle
    · exact hs2.mono hle
    · exact hs3.mono hle⟩
theorem mac3_row {G : PM} {b c T T' E lo : Nat} {hk hu s : Sh} {key use L : List Y} {y : Y} (hsk : SlR G 1 encY hk key) (hsu : SlR G 1 encY hu use) (hK : RdNP G 0 0 (wa 64 kW)) (hlo : lo ≤ L.length) (hlk : key.length ≤ 140737488351232) (hl : L.length + use.length ≤ 100000000000000) :
    Ct Tryd.prog 80 ([hk.val key.length, .slice (some ⟨c, 0, none⟩) 3 3] : List Value).toArray G [rB (s.val L.length) E L, .blk b (cl [V y] T), .blk c (cl [(s.cut lo 1).val (L.length - lo), hu.val use.length, .slice (some ⟨b, 0, none⟩) 1 1] T')]
      (fun _ μ' u => ∃ ν, μ' = rB (s.val L.length) E L :: ν ∧ ∃ ν2, ν = .blk b (cl [V y] T) :: ν2 ∧ ∃ ν3, ν2 = .blk c (cl [(s.cut lo 1).val (L.length - lo), hu.val use.length, .slice (some ⟨b, 0, none⟩) 1 1] T') :: ν3 ∧ ν3 = [] ∧ u = .agg (ba 32 (macL key (L.drop lo ++ use ++ [y]))).toArray) :=
  Ct.lendB (fun s' G2 hle hv hs => Ct.lendK (fun h1 => Ct.lendK (fun h2 => by
    obtain rfl := Sh.val_inj hv
    have e1 : SlR G2 1 encY (s.cut lo 1) (L.drop lo) := by
      have := hs.cutn (lo := lo) (m := L.length - lo) (by omega)
      rwa [List.take_of_length_le (by simp)] at this
    have e2 : SlR (G2.add b (cl [V y] T)) 1 encY ⟨some ⟨b, 0, none⟩, 1⟩ [y] := SlR.ofBlk (T := T) (PM.add_same _ _ _) (fun _ _ => rfl) (by simp)
    have e3 : L.length - lo = (L.drop lo).length := by simp
    rw [e3] at h2 ⊢
    have hP := SlP.three (h1 := s.cut lo 1) (h2 := hu) (h3 := ⟨some ⟨b, 0, none⟩, 1⟩) h2 (e1.mono h1) ((hsu.mono hle).mono h1) e2
    have h := macSum_ok key hk _ ⟨some ⟨c, 0, none⟩, 3⟩ _ (((hsk.mono hle).mono h1).mono h2) hP (((hK.mono hle).mono h1).mono h2) hlk (by simp [catL]; omega) (by simp)
    rw [show catL [((s.cut lo 1), L.drop lo), (hu, use), ((⟨some ⟨b, 0, none⟩, 1⟩ : Sh), [y])] = L.drop lo ++ use ++ [y] by simp [catL]] at h
    exact h)))
theorem Expand_ok (key : List Y) (hk : Sh) (use : List Y) (hu : Sh) (G : PM) (hsk : SlR G 1 encY hk key) (hsu : SlR G 1 encY hu use) (hK : RdNP G 0 0 (wa 64 kW)) (hlk : key.length ≤ 1000) (hl : use.length ≤ 1000000) : Ct Tryd.prog 68 ([hk.val key.length, hu.val use.length, .int .i64 ((64 : Nat) : Int)] : List Value).toArray G [] (fun G' μ' u => ∃ s L, L = expL key use 2 ∧ μ' = [] ∧ u = .tuple #[s.val L.length, .int .i64 0] ∧ SlR G' 1 encY s L) := by
  refine Ct.of Tryd.func68 rfl Tryd.ntmps68 rfl fun w0 hs0 => ?_
  refine .seq ?_
  refine Wk.rg [0, 1] rfl rfl ?_
  refine asg rfl .no (.u rfl) ?_
  refine asg rfl .no (.u rfl) ?_
  refine .nil ?_
  refine .code ?_
  refine .seq ?_
  refine .seq ?_
  refine Wk.rg [0, 1, 2, 3, 4, 5] rfl rfl ?_
  refine mv rfl .no (.u rfl) ?_
  refine cp rfl .no (.u rfl) (.u rfl) rfl ?_
  refine mv rfl .no (.u rfl) ?_
  refine mv rfl (.f rfl rfl) (.u rfl) ?_
  refine cp rfl (.f rfl rfl) (.s rfl) (.u rfl) rfl ?_
  refine pkO rfl .no (.u rfl) (.s rfl) ?_
  refine .nil ?_
  refine .code ?_
  refine .cond rfl (fun c1 => ?_) (fun c1 => ?_)
  · have c1k := c1
    exact absurd c1 (by decide)
  · have c1k := c1
    try simp only [decide_eq_true_eq, decide_eq_false_iff_not, Int.not_lt, Int.not_le, gt_iff_lt, ge_iff_le, Bool.or_eq_true, Bool.and_eq_true, Bool.or_eq_false_iff, Bool.not_eq_true', Bool.not_eq_false', Int.toNat_natCast, bne_iff_ne, beq_iff_eq, bne_eq_false_iff_eq, beq_eq_false_iff_ne, ne_eq] at c1
    refine .skip ?_
    refine .code ?_
    refine .seq ?_
    refine Wk.rg [0, 1, 2, 3] rfl rfl ?_
    refine mv rfl .no (.u rfl) ?_
    refine arn (((64 + 32) : Nat) : Int) rfl .no (.u rfl) (.u rfl) rfl (fun _ => by omega) (fun _ => wrap_i64 (by omega) (by omega)) ?_
    refine mkY (0) ((64 + 32)) rfl Fx.se36 Fx.zv5 (.u rfl) (.u rfl) (by first | rfl | omega) (by first | rfl | omega) (by omega) (by omega) ?_; intro b19
    have lR19 : (List.replicate (0) (0#8 : Y)).length = 0 := List.length_replicate
    refine asg rfl .no (.u rfl) ?_
    refine .nil ?_
    refine .code ?_
    refine .seq ?_
    refine .seq ?_
    refine Wk.rg [0] rfl rfl ?_
    refine asg rfl .no (.u rfl) ?_
    refine .nil ?_
    refine .code ?_
    refine .block ?_
    refine Wk.lop (α := Nat × Value × List Y) (fun gh => [(8, true, gh.2.1), (9, true, V (BitVec.ofNat 8 (gh.1 + 1)))]) (fun gh => [rB gh.2.1 5 gh.2.2])
      (fun gh Gl => (gh.1 ≤ 2) ∧ (gh.2.2 = expL key use gh.1)) (fun gh => 2 - gh.1) (0, _, _) [(0, true, _), (1, true, _), (2, true, _)] []
      (ESub.cons rfl rfl (ESub.cons rfl rfl (ESub.cons rfl rfl (ESub.cons rfl rfl (ESub.cons rfl rfl ESub.nil)))))
      (MSub.cons .here rfl MSub.nil) ?_ ?_
    · refine ⟨?_, ?_⟩
      · (try dsimp only) <;> (first | omega | rfl | assumption | (simp; done))
      · (try dsimp only) <;> (rfl)
    intro gh N0 Gl0 hN0 hGl0 hF0
    obtain ⟨j, v, L⟩ := gh; dsimp only at hF0 hN0 ⊢
    obtain ⟨hj, eL⟩ := hF0
    have hsk := hsk.mono hGl0
    have hsu := hsu.mono hGl0
    have hK := hK.mono hGl0
    have lL : L.length = 32 * j := by rw [eL, exp_len]
    refine .seq ?_
    refine .seq ?_
    refine Wk.rg [0, 1, 2, 3] rfl rfl ?_
    refine mv rfl .no (.u rfl) ?_
    refine lr rfl .no Fx.sn36 (.u rfl) .here ?_
    refine mv rfl .no (.u rfl) ?_
    refine cp rfl .no (.u rfl) (.u rfl) rfl ?_
    refine .nil ?_
    refine .code ?_
    refine .cond rfl (fun c2 => ?_) (fun c2 => ?_)
    · have c2k := c2
      try simp only [decide_eq_true_eq, decide_eq_false_iff_not, Int.not_lt, Int.not_le, gt_iff_lt, ge_iff_le, Bool.or_eq_true, Bool.and_eq_true, Bool.or_eq_false_iff, Bool.not_eq_true', Bool.not_eq_false', Int.toNat_natCast, bne_iff_ne, beq_iff_eq, bne_eq_false_iff_eq, beq_eq_false_iff_ne, ne_eq] at c2
      refine .skip ?_
      refine .code ?_
      refine .seq ?_
      refine .block ?_
      refine .seq ?_
      refine wk_rs .here ?_; intro sR19 bbR19 evR19 lcR19 oaR19; subst evR19
      refine Wk.rg [0, 1, 2, 3, 4, 5, 6, 7, 8, 9, 10, 11, 12, 13] rfl rfl ?_
      refine mv rfl .no (.u rfl) ?_
      refine mv rfl .no (.u rfl) ?_
      refine mv rfl .no (.u rfl) ?_
      refine lr rfl .no Fx.sn36 (.u rfl) .here ?_
      refine ar rfl .no (.u rfl) (.u rfl) rfl (fun _ => wrap_i64 (by omega) (by omega)) ?_
      refine mAq ((32 * j - 32 : Nat) : Int) rfl (.u rfl) (.u rfl) (by split <;> omega) ?_
      refine sd rfl .no Fx.se36 (.u rfl) (.u rfl) (fun _ => by omega) (fun _ => by omega) ?_
      refine mv rfl .no (.u rfl) ?_
      refine mv rfl .no (.u rfl) ?_
      refine Go.Tan.b1 rfl Fx.se36 Fx.zv5 (.u rfl) rfl rfl (by decide) ?_; intro b35
      refine Go.Tan.bN rfl Fx.se56 Fx.zv36 (Evp.cons (.u rfl) (Evp.cons (.u rfl) (Evp.cons (.u rfl) Evp.nil))) rfl (by decide) (by simp [Value.oneCell', Sh.val]) ?_; intro b36
      refine ka rfl (.inr rfl) Fx.go80 (Eva.cons (.u rfl) (Eva.cons (.u rfl) Eva.nil)) (mtk3 (.there (.there .here)) (.there .here) .here) (mac3_row (lo := 32 * j - 32) hsk hsu hK (by omega) (by omega) (by omega)) ?_
      rintro _ G37 μ37 hG37 ⟨_, rfl, _, rfl, _, rfl, rfl, rfl⟩
      have hsk := hsk.mono hG37
      have hsu := hsu.mono hG37
      have hK := hK.mono hG37
      refine al rfl Fx.zq23 ?_; intro b10
      refine sw rfl (.u rfl) (.u rfl) rfl Fx.sz23 .here (by first | exact (ba_len _ _).trans (ba_len _ _).symm | exact (wa_len _ _).trans (wa_len _ _).symm | exact ba_len _ _ | exact wa_len _ _ | rfl | (simp only [wa_len, ba_len, List.length_append, List.length_cons, List.length_nil])) (by first | exact ba_one _ _ | exact wa_one _ _ | exact one_V _ | decide | exact one_app (wa_one _ _) (by simp [Value.oneCell'])) ?_
      refine .nil ?_
      refine .code ?_
      refine Wk.rg [0, 1, 2, 3] rfl rfl ?_
      refine mv rfl .no (.u rfl) ?_
      refine sa0 rfl .no Fx.ar23 (.u rfl) ?_
      refine apY rfl Fx.se36 Fx.zv5 (.u rfl) (.u rfl) (.there .here) (Sc.arr .here) (by (try simp only [List.length_append, List.length_cons, List.length_nil, yl_len]); omega) ?_
      intro v40 L40 ov40 eL40
      have lL40 : L40.length = L.length + 32 := by rw [eL40, List.length_append]; first | rfl | simp [yl_len]
      refine asg rfl .no (.u rfl) ?_
      refine .nil ?_
      refine .blk ?_
      refine .code ?_
      refine Wk.rg [0, 1, 2] rfl rfl ?_
      refine mv rfl .no (.u rfl) ?_
      refine bw (k := .u8) (b := 1#8) rfl .no rfl (.u rfl) (.u rfl) rfl ?_
      refine asg rfl .no (.u rfl) ?_
      refine .nil ?_
      refine We.lpo (j + 1, v40, L40) ?_ ?_ ?_ ?_ ?_
      · exact (ESub.cons rfl rfl (ESub.cons rfl (by show V (BitVec.ofNat 8 (j + 1) + 1#8) = _; rw [← BitVec.ofNat_add]) (ESub.cons rfl rfl (ESub.cons rfl rfl (ESub.cons rfl rfl ESub.nil)))))
      · exact (MSub.cons .here rfl MSub.nil)
      · first | omega | (dsimp only; omega)
      · exact (hGl0).trans hG37
      · refine ⟨?_, ?_⟩
        · (try dsimp only) <;> (first | omega | rfl | assumption | (simp; done))
        · (try dsimp only) <;> (rw [eL40, eL, exp_last]; rfl)
    · have c2k := c2
      try simp only [decide_eq_true_eq, decide_eq_false_iff_not, Int.not_lt, Int.not_le, gt_iff_lt, ge_iff_le, Bool.or_eq_true, Bool.and_eq_true, Bool.or_eq_false_iff, Bool.not_eq_true', Bool.not_eq_false', Int.toNat_natCast, bne_iff_ne, beq_iff_eq, bne_eq_false_iff_eq, beq_eq_false_iff_ne, ne_eq] at c2
      refine .exit ?_
      refine .xcode ?_
      refine .xlp ?_
      refine .xblk ?_
      refine .code ?_
      refine .seq ?_
      refine wk_fb .here (by first | (intro b hb; cases hb; done) | simp [keys, Res.keys]) ?_; intro GfR19 hR19 hleR19 evR19 hsR19; subst evR19
      have hsk := hsk.mono hleR19
      have hsu := hsu.mono hleR19
      have hK := hK.mono hleR19
      refine Wk.rg [0, 1, 2, 3, 4, 5] rfl rfl ?_
      refine mv rfl .no (.u rfl) ?_
      refine mv rfl .no (.u rfl) ?_
      refine mv rfl .no (.u rfl) ?_
      refine kM 64 rfl Fx.se36 hsR19 (.u rfl) (.u rfl) (.u rfl) (by omega) ?_; intro h44 L44 eL44 lL44 hs44
      refine asg rfl .no (.u rfl) ?_
      refine asg rfl .no (.u rfl) ?_
      refine .nil ?_
      refine .code ?_
      refine .ret ?_
      refine We.fin0 Tryd.results68 (.tmp rfl (.tmp rfl .nil)) ?_
      obtain rfl : j = 2 := by omega
      exact ⟨h44, L44, by rw [eL44, eL]; exact List.take_of_length_le (by rw [exp_len]; omega), rfl, rfl, hs44⟩

end Go.Proofs.YtbdnclpopappeaaDoor

namespace Go.Proofs.YtbdnclpopappeaaDoor
set_option linter.unusedSimpArgs false
set_option linter.unusedVariables false
open Go.Tan Go.RowKit

namespace Fx
theorem zq70 : zrL Tryd.prog 70 = some (ba 32 (fun _ => 0#8) ++ ba 32 (fun _ => 0#8)) := by kernel_rfl
theorem go67 : goFn Tryd.prog 67 = true := by kernel_rfl
theorem go68 : goFn Tryd.prog 68 = true := by kernel_rfl
theorem bp70_0_1 : bPl Tryd.prog 70 [0, 1] = some (ba 32 (fun _ => 0#8) ++ ba 32 (fun _ => 0#8), [(0, 32), (32, 32)]) := by kernel_rfl
theorem sz70 : szT Tryd.prog 70 = some 64 := by kernel_rfl
theorem ag26 : aggN Tryd.prog 26 = some (some 5) := by kernel_rfl
theorem go15 : goFn Tryd.prog 15 = true := by kernel_rfl
theorem go47 : goFn Tryd.prog 47 = true := by kernel_rfl
end Fx
theorem Derive_ok (root : Nat → Y) (use : List Y) (hu : Sh) (G : PM) (hsu : SlR G 1 encY hu use) (hK : RdNP G 0 0 (wa 64 kW)) (hl : use.length ≤ 1000000) : Ct Tryd.prog 47 ([.agg (ba 32 root).toArray, hu.val use.length] : List Value).toArray G [] (fun _ μ' u => μ' = [] ∧ u = .agg (ba 32 (keyEnc root use) ++ ba 32 (keyMac root use)).toArray) := by
  refine Ct.of Tryd.func47 rfl Tryd.ntmps47 rfl fun w0 hs0 => ?_
  refine .seq ?_
  refine Wk.rg [0, 1] rfl rfl ?_
  refine bx rfl (.u rfl) rfl ?_; intro b2
  refine al rfl Fx.zq70 ?_; intro b4
  refine .nil ?_
  refine .code ?_
  refine .seq ?_
  refine wk_fz (.there .here) (by intro b hb; cases hb) ?_; intro Gfb2 hleb2 hbb2
  have hsu := hsu.mono hleb2
  have hK := hK.mono hleb2
  refine Wk.rg [0, 1, 2, 3, 4, 5] rfl rfl ?_
  refine Go.Tan.bN rfl Fx.se36 Fx.zv5 (Evp.cons (.u rfl) (Evp.cons (.u rfl) (Evp.cons (.u rfl) (Evp.cons (.u rfl) (Evp.cons (.u rfl) (Evp.cons (.u rfl) (Evp.cons (.u rfl) (Evp.cons (.u rfl) Evp.nil)))))))) rfl (by decide) (by simp [Value.oneCell', Sh.val]) ?_; intro b8
  refine mkS saltL rfl rfl Fx.cst36 (.u rfl) .here rfl rfl (by decide) ?_; intro G9 hG9 hs9
  have hsu := hsu.mono hG9
  have hK := hK.mono hG9
  have hbb2 := hbb2.mono hG9
  refine kA rfl .no Fx.ar23 (.u rfl) hbb2 (by first | exact ba_all | exact app_l | exact app_r) ?_; intro h10 L10 eL10 lL10 hs10
  refine kv rfl .no Fx.go67 (Eva.cons (.u rfl) (Eva.cons (.u rfl) Eva.nil)) (fun _ => Extract_ok saltL _ L10 h10 _ hs9 hs10 hK (by decide) (by omega)) ?_
  refine al rfl Fx.zq23 ?_; intro b5
  refine sw rfl (.u rfl) (.u rfl) rfl Fx.sz23 .here (by first | exact (ba_len _ _).trans (ba_len _ _).symm | exact (wa_len _ _).trans (wa_len _ _).symm | exact ba_len _ _ | exact wa_len _ _ | rfl | (simp only [wa_len, ba_len, List.length_append, List.length_cons, List.length_nil])) (by first | exact ba_one _ _ | exact wa_one _ _ | exact one_V _ | decide | exact one_app (wa_one _ _) (by simp [Value.oneCell'])) ?_
  refine .nil ?_
  refine .code ?_
  refine .seq ?_
  refine wk_fz .here (by intro b hb; cases hb) ?_; intro Gfb5 hleb5 hbb5
  have hsu := hsu.mono hleb5
  have hK := hK.mono hleb5
  have hbb2 := hbb2.mono hleb5
  have hs9 := hs9.mono hleb5
  have hs10 := hs10.mono hleb5
  refine Wk.rg [0, 1, 2, 3, 4, 5, 6, 7] rfl rfl ?_
  refine kA rfl .no Fx.ar23 (.u rfl) hbb5 (by first | exact ba_all | exact app_l | exact app_r) ?_; intro h13 L13 eL13 lL13 hs13
  refine mv rfl .no (.u rfl) ?_
  refine kc rfl Fx.go68 (Eva.cons (.u rfl) (Eva.cons (.u rfl) (Eva.cons (.u rfl) Eva.nil))) (Expand_ok L13 h13 use hu _ hs13 hsu hK (by omega) hl) ?_
  rintro _ G15 μ15 hG15 ⟨h15, L15, eL15, rfl, rfl, hs15⟩
  have hsu := hsu.mono hG15
  have hK := hK.mono hG15
  have hbb2 := hbb2.mono hG15
  have hs9 := hs9.mono hG15
  have hs10 := hs10.mono hG15
  have hbb5 := hbb5.mono hG15
  have hs13 := hs13.mono hG15
  refine mv rfl .no (.u rfl) ?_
  refine ex rfl .no (.u rfl) rfl ?_
  refine ex rfl .no (.u rfl) rfl ?_
  refine asg rfl .no (.u rfl) ?_
  have lL15 : L15.length = 64 := by rw [eL15, exp_len]
  refine asg rfl .no (.u rfl) ?_
  refine .nil ?_
  refine .code ?_
  refine .seq ?_
  refine Wk.draw (mc := ⟨false, false⟩) [0, 1, 2, 3, 4, 5, 6, 7, 8, 9] Fx.mix (by kernel_rfl) ?_
  refine mv rfl .no (.u rfl) ?_
  refine kE (32) rfl .no Fx.se36 hs15 (.u rfl) (.u rfl) (fun _ => by omega) (fun _ => by omega) ?_
  intro h19 L19 eL19 lL19 hs19
  have lL19 := lL19 rfl
  refine spS rfl .no Fx.ar22 hs19 (.u rfl) (fun _ => by omega) (by decide) ?_
  refine lA rfl .no Fx.ag22 (.u rfl) (fun _ => (hs19.arr (m := 32) (by omega)).rd) (fun _ => ba_len _ _) ?_
  refine mv rfl .no (.u rfl) ?_
  refine kD (32) rfl .no Fx.se36 hs15 (.u rfl) (.u rfl) (fun _ => by omega) (fun _ => by omega) ?_
  intro h23 L23 eL23 lL23 hs23
  have lL23 := lL23 rfl
  refine spS rfl .no Fx.ar22 hs23 (.u rfl) (fun _ => by omega) (by decide) ?_
  refine lA rfl .no Fx.ag22 (.u rfl) (fun _ => (hs23.arr (m := 32) (by omega)).rd) (fun _ => ba_len _ _) ?_
  refine bCe (ba 32 (fun i => L19.getD i 0) ++ ba 32 (fun i => L23.getD i 0)) rfl .no Fx.bp70_0_1 (.cons (.u rfl) rfl (.cons (.u rfl) rfl .nil)) rfl (key_put (by decide) _ _) ?_
  refine sw rfl (.u rfl) (.u rfl) rfl Fx.sz70 .here (by first | exact (ba_len _ _).trans (ba_len _ _).symm | exact (wa_len _ _).trans (wa_len _ _).symm | exact ba_len _ _ | exact wa_len _ _ | rfl | (simp only [wa_len, ba_len, List.length_append, List.length_cons, List.length_nil])) (key_one _ _) ?_
  refine .nil ?_
  refine .code ?_
  refine .ret ?_
  refine We.fin0 Tryd.results47 (.cell rfl (fun w hw => run_loadVarN Fx.ag70 (RdN.own .here) ((by first | exact (ba_len _ _).trans (ba_len _ _).symm | exact (wa_len _ _).trans (wa_len _ _).symm | exact ba_len _ _ | exact wa_len _ _ | rfl | (simp only [wa_len, ba_len, List.length_append, List.length_cons, List.length_nil]))) hw) .nil) ?_
  have e : L15 = deriveL root use := by rw [eL15, eL13, eL10]; rfl
  exact ⟨rfl, congrArg (fun z => Value.agg (List.toArray z)) (key_cells e eL19 eL23)⟩

theorem KeyOf_ok (root : Nat → Y) (h : Hd) (G : PM) (hK : RdNP G 0 0 (wa 64 kW)) : Ct Tryd.prog 23 ([.agg (ba 32 root).toArray, .agg ([V h.kind, V h.level, uv .u64 h.gen, uv .u64 h.epoch, uv .u64 h.num] : List Value).toArray] : List Value).toArray G [] (fun _ μ' u => μ' = [] ∧ u = .agg (ba 32 (keyEnc root (headL h)) ++ ba 32 (keyMac root (headL h))).toArray) := by
  refine Ct.of Tryd.func23 rfl Tryd.ntmps23 rfl fun w0 hs0 => ?_
  refine .seq ?_
  refine Wk.rg [0, 1, 2] rfl rfl ?_
  refine bx rfl (.u rfl) rfl ?_; intro b2
  refine bx rfl (.u rfl) rfl ?_; intro b3
  refine al rfl Fx.zq70 ?_; intro b4
  refine .nil ?_
  refine .code ?_
  refine .seq ?_
  refine Wk.draw (mc := ⟨false, false⟩) [0, 1, 2, 3, 4] Fx.mix (by kernel_rfl) ?_
  refine lA rfl .no Fx.ag23 (.u rfl) (fun _ => RdN.own (.there (.there .here))) (fun _ => (by first | exact (key_len _ _).trans (key_len _ _).symm | exact key_len _ _ | exact ba_len _ _ | rfl)) ?_
  refine lA rfl .no Fx.ag26 (.u rfl) (fun _ => RdN.own (.there .here)) (fun _ => (by first | exact (key_len _ _).trans (key_len _ _).symm | exact key_len _ _ | exact ba_len _ _ | rfl)) ?_
  refine kc rfl Fx.go15 (Eva.cons (.u rfl) Eva.nil) (Ct.frzB (nLay_ok h _)) ?_
  rintro _ G7 μ7 hG7 ⟨h7, L7, eL7, rfl, rfl, hs7⟩
  have hK := hK.mono hG7
  refine kv rfl .no Fx.go47 (Eva.cons (.u rfl) (Eva.cons (.u rfl) Eva.nil)) (fun _ => Derive_ok root L7 h7 _ hs7 hK (by rw [eL7, head_len]; decide)) ?_
  refine sw rfl (.u rfl) (.u rfl) rfl Fx.sz70 .here (by first | exact (key_len _ _).trans (key_len _ _).symm | exact key_len _ _ | exact ba_len _ _ | rfl) (key_one _ _) ?_
  refine .nil ?_
  refine .code ?_
  refine .ret ?_
  refine We.fin0 Tryd.results23 (.cell rfl (fun w hw => run_loadVarN Fx.ag70 (RdN.own .here) ((by first | exact (key_len _ _).trans (key_len _ _).symm | exact key_len _ _ | exact ba_len _ _ | rfl)) hw) .nil) ?_
  subst eL7
  exact ⟨rfl, rfl⟩

end Go.Proofs.YtbdnclpopappeaaDoor

namespace Go.Proofs.YtbdnclpopappeaaDoor
set_option linter.unusedSimpArgs false
set_option linter.unusedVariables false
open Go.Tan Go.RowKit


end Go.Proofs.YtbdnclpopappeaaDoor

namespace Go.Proofs.YtbdnclpopappeaaDoor
set_option linter.unusedSimpArgs false
set_option linter.unusedVariables false
open Go.Tan Go.RowKit

namespace Fx
theorem bp145_0 : bPl Tryd.prog 145 [0] = some ([.slice none 0 0, .int .i64 0], [(0, 1)]) := by kernel_rfl
theorem pt120 : ptT Tryd.prog 120 = true := by kernel_rfl
theorem fo145_1 : fOff Tryd.prog 145 1 = some 1 := by kernel_rfl
theorem ag39 : aggN Tryd.prog 39 = some none := by kernel_rfl
theorem fo145_0 : fOff Tryd.prog 145 0 = some 0 := by kernel_rfl
theorem cv5_24 : cvK Tryd.prog 5 24 = some .u64 := by kernel_rfl
end Fx
theorem wcNew_ok (xs : List Y) (h : Sh) (G : PM) (hs : SlR G 1 encY h xs) (hl : xs.length ≤ 100000000000000) : Ct Tryd.prog 54 ([h.val xs.length] : List Value).toArray G [] (fun G' μ' u => ∃ b s, μ' = [.blk b (cl [Sh.val s xs.length, .int .i64 0] 145)] ∧ u = .pointer (some ⟨b, 0, none⟩) ∧ SlR G' 1 encY s xs) := by
  refine Ct.of Tryd.func54 rfl Tryd.ntmps54 rfl fun w0 hs0 => ?_
  refine .seq ?_
  refine Wk.rg [0] rfl rfl ?_
  refine asg rfl .no (.u rfl) ?_
  refine .nil ?_
  refine .code ?_
  refine .seq ?_
  refine Wk.rg [0, 1, 2, 3, 4, 5] rfl rfl ?_
  refine b0B rfl Fx.se36 ?_; intro b3
  refine mv rfl .no (.u rfl) ?_
  refine apY0 rfl Fx.se36 Fx.zv5 (.u rfl) (.u rfl) .here hs.sc (by (try simp only [List.length_append, List.length_cons, List.length_nil, yl_len]); omega) ?_
  intro v5 L5 _ ov5 eL5
  have lL5 : L5.length = xs.length := by rw [eL5]
  refine bCe ([v5, .int .i64 0]) rfl .no Fx.bp145_0 (.cons (.u rfl) (cells_one ov5) .nil) rfl (rfl) ?_
  refine bx rfl (.u rfl) rfl ?_; intro b7
  refine asg rfl .no (.u rfl) ?_
  refine .nil ?_
  refine .code ?_
  refine .ret ?_
  refine we_fb (.there .here) (by first | (intro b hb; cases hb; done) | simp [keys, Res.keys]) ?_; intro GfR5 hR5 hleR5 evR5 hsR5; subst evR5
  have hs := hs.mono hleR5
  refine We.fin Tryd.results54 (.tmp rfl .nil) (MSub.cons .here rfl MSub.nil) ?_
  subst eL5
  exact ⟨b7, hR5, rfl, rfl, hsR5⟩

theorem rdFix_ok (xs : List Y) (s : Sh) (b : Nat) (G : PM) (hs : SlR G 1 encY s xs) (h8 : 8 ≤ xs.length) (hl : xs.length ≤ 100000000000000) : Ct Tryd.prog 55 ([.pointer (some ⟨b, 0, none⟩), .int .i64 ((8 : Nat) : Int)] : List Value).toArray G [.blk b (cl [s.val xs.length, .int .i64 0] 145)] (fun G' μ' u => ∃ s', μ' = [.blk b (cl [Sh.val s' (xs.drop 8).length, .int .i64 0] 145)] ∧ u = uv .u64 (unfK xs 8) ∧ SlR G' 1 encY s' (xs.drop 8)) := by
  refine Ct.of Tryd.func55 rfl Tryd.ntmps55 rfl fun w0 hs0 => ?_
  refine .seq ?_
  refine Wk.rg [0] rfl rfl ?_
  refine asg rfl .no (.u rfl) ?_
  refine .nil ?_
  refine .code ?_
  refine .seq ?_
  refine .seq ?_
  refine Wk.rg [0, 1, 2, 3, 4, 5, 6, 7, 8] rfl rfl ?_
  refine mv rfl .no (.u rfl) ?_
  refine pe rfl .no Fx.pt120 (.u rfl) (.u rfl) ?_
  refine mv rfl .no (.u rfl) ?_
  refine mv rfl (Gd.f (b := false) rfl rfl) (.u rfl) ?_
  refine nc rfl (Gd.f (b := false) rfl rfl) (.u rfl) ?_
  refine fz rfl (Gd.f (b := false) rfl rfl) Fx.fo145_1 (.u rfl) ?_
  refine ld rfl (Gd.f (b := false) rfl rfl) Fx.ag39 (.u rfl) (fun _ => Rd.own .here (by first | exact wap_f rfl | rfl)) ?_
  refine cp rfl (Gd.f (b := false) rfl rfl) (.u rfl) (.u rfl) rfl ?_
  refine pkO rfl .no (.u rfl) (.u rfl) ?_
  refine .nil ?_
  refine .code ?_
  refine .cond rfl (fun c1 => ?_) (fun c1 => ?_)
  · have c1k := c1
    exact absurd c1 (by decide)
  · have c1k := c1
    try simp only [decide_eq_true_eq, decide_eq_false_iff_not, Int.not_lt, Int.not_le, gt_iff_lt, ge_iff_le, Bool.or_eq_true, Bool.and_eq_true, Bool.or_eq_false_iff, Bool.not_eq_true', Bool.not_eq_false', Int.toNat_natCast, bne_iff_ne, beq_iff_eq, bne_eq_false_iff_eq, beq_eq_false_iff_ne, ne_eq] at c1
    refine .skip ?_
    refine .code ?_
    refine .seq ?_
    refine .seq ?_
    refine Wk.rg [0, 1, 2, 3, 4, 5] rfl rfl ?_
    refine mv rfl .no (.u rfl) ?_
    refine cp rfl .no (.u rfl) (.u rfl) rfl ?_
    refine mv rfl .no (.u rfl) ?_
    refine mv rfl (.f rfl rfl) (.u rfl) ?_
    refine cp rfl (.f rfl rfl) (.s rfl) (.u rfl) rfl ?_
    refine pkO rfl .no (.u rfl) (.s rfl) ?_
    refine .nil ?_
    refine .code ?_
    refine .cond rfl (fun c2 => ?_) (fun c2 => ?_)
    · have c2k := c2
      exact absurd c2 (by decide)
    · have c2k := c2
      try simp only [decide_eq_true_eq, decide_eq_false_iff_not, Int.not_lt, Int.not_le, gt_iff_lt, ge_iff_le, Bool.or_eq_true, Bool.and_eq_true, Bool.or_eq_false_iff, Bool.not_eq_true', Bool.not_eq_false', Int.toNat_natCast, bne_iff_ne, beq_iff_eq, bne_eq_false_iff_eq, beq_eq_false_iff_ne, ne_eq] at c2
      refine .skip ?_
      refine .code ?_
      refine .seq ?_
      refine .seq ?_
      refine Wk.rg [0, 1, 2, 3, 4, 5, 6] rfl rfl ?_
      refine mv rfl .no (.u rfl) ?_
      refine mv rfl .no (.u rfl) ?_
      refine nc rfl .no (.u rfl) ?_
      refine fz rfl .no Fx.fo145_0 (.u rfl) ?_
      refine ld rfl .no Fx.ag36 (.u rfl) (fun _ => Rd.own .here (by first | exact wap_f rfl | rfl)) ?_
      refine ln rfl .no Fx.sn36 (.u rfl) ?_
      refine cp rfl .no (.u rfl) (.u rfl) rfl ?_
      refine .nil ?_
      refine .code ?_
      refine .cond rfl (fun c3 => ?_) (fun c3 => ?_)
      · have c3k := c3
        try simp only [decide_eq_true_eq, decide_eq_false_iff_not, Int.not_lt, Int.not_le, gt_iff_lt, ge_iff_le, Bool.or_eq_true, Bool.and_eq_true, Bool.or_eq_false_iff, Bool.not_eq_true', Bool.not_eq_false', Int.toNat_natCast, bne_iff_ne, beq_iff_eq, bne_eq_false_iff_eq, beq_eq_false_iff_ne, ne_eq] at c3
        exfalso; omega
      · have c3k := c3
        try simp only [decide_eq_true_eq, decide_eq_false_iff_not, Int.not_lt, Int.not_le, gt_iff_lt, ge_iff_le, Bool.or_eq_true, Bool.and_eq_true, Bool.or_eq_false_iff, Bool.not_eq_true', Bool.not_eq_false', Int.toNat_natCast, bne_iff_ne, beq_iff_eq, bne_eq_false_iff_eq, beq_eq_false_iff_ne, ne_eq] at c3
        refine .skip ?_
        refine .code ?_
        refine .seq ?_
        refine Wk.rg [0] rfl rfl ?_
        refine asg rfl .no (.u rfl) ?_
        refine .nil ?_
        refine .code ?_
        refine .seq ?_
        refine .seq ?_
        refine Wk.rg [0, 1] rfl rfl ?_
        refine mv rfl .no (.u rfl) ?_
        refine mv rfl .no (.u rfl) ?_
        refine .nil ?_
        refine .code ?_
        refine .block ?_
        refine Wk.lop (α := Nat × BitVec 64) (fun gh => [(5, true, uv .u64 gh.2), (36, true, .int .i64 (gh.1 : Int))]) (fun _ => [])
          (fun gh Gl => (gh.1 ≤ 8) ∧ (gh.2 = unfK xs gh.1)) (fun gh => 8 - gh.1) (0, 0#64) [(0, true, _), (1, true, _), (35, true, _)] [_]
          (ESub.cons rfl rfl (ESub.cons rfl (by first | rfl | exact evi (by omega)) (ESub.cons rfl rfl (ESub.cons rfl rfl (ESub.cons rfl rfl ESub.nil)))))
          (MSub.cons .here rfl MSub.nil) ?_ ?_
        · refine ⟨?_, ?_⟩
          · (try dsimp only) <;> (first | omega | rfl | assumption | (simp; done))
          · (try dsimp only) <;> (rfl)
        intro gh N0 Gl0 hN0 hGl0 hF0
        obtain ⟨k, m⟩ := gh; dsimp only at hF0 hN0 ⊢
        obtain ⟨hk, em⟩ := hF0
        have hs := hs.mono hGl0
        refine .seq ?_
        refine Wk.rg [0] rfl rfl ?_
        refine cp rfl .no (.u rfl) (.u rfl) rfl ?_
        refine .nil ?_
        refine .code ?_
        refine .seq ?_
        refine .cond rfl (fun c4 => ?_) (fun c4 => ?_)
        · have c4k := c4
          try simp only [decide_eq_true_eq, decide_eq_false_iff_not, Int.not_lt, Int.not_le, gt_iff_lt, ge_iff_le, Bool.or_eq_true, Bool.and_eq_true, Bool.or_eq_false_iff, Bool.not_eq_true', Bool.not_eq_false', Int.toNat_natCast, bne_iff_ne, beq_iff_eq, bne_eq_false_iff_eq, beq_eq_false_iff_ne, ne_eq] at c4
          refine .skip ?_
          refine .code ?_
          refine .seq ?_
          refine .block ?_
          refine .seq ?_
          refine Wk.rg [0, 1] rfl rfl ?_
          refine mv rfl .no (.u rfl) ?_
          refine asg rfl .no (.u rfl) ?_
          refine .nil ?_
          refine .code ?_
          refine Wk.rg [0, 1, 2, 3, 4, 5, 6, 7, 8, 9, 10, 11, 12, 13] rfl rfl ?_
          refine mv rfl .no (.u rfl) ?_
          refine mv rfl .no (.u rfl) ?_
          refine nc rfl .no (.u rfl) ?_
          refine fz rfl .no Fx.fo145_0 (.u rfl) ?_
          refine ld rfl .no Fx.ag36 (.u rfl) (fun _ => Rd.own .here (by first | exact wap_f rfl | rfl)) ?_
          refine mv rfl .no (.u rfl) ?_
          refine ih rfl .no Fx.se36 (.u rfl) (.u rfl) (fun _ => by omega) (fun _ => by omega) (fun _ => hs.nn (k := k) (by omega)) ?_
          refine ld rfl .no Fx.ag5 (.u rfl) (fun _ => (hs.yat (k) (by omega) (by omega)).rd) ?_
          refine cu (k := .u8) rfl .no rfl Fx.cv5_24 (.u rfl) ?_
          refine mv rfl .no (.u rfl) ?_
          refine arn (((8 * k) : Nat) : Int) rfl .no (.u rfl) (.u rfl) rfl (fun _ => by omega) (fun _ => wrap_i64 (by omega) (by omega)) ?_
          refine lw (k := .u64) rfl .no rfl (.u rfl) (.u rfl) (fun _ => by omega) ?_
          refine bw (k := .u64) rfl .no rfl (.u rfl) (.u rfl) rfl ?_
          refine asg rfl .no (.u rfl) ?_
          refine .nil ?_
          refine .blk ?_
          refine .code ?_
          refine Wk.rg [0, 1] rfl rfl ?_
          refine arn (((k + 1) : Nat) : Int) rfl .no (.u rfl) (.u rfl) rfl (fun _ => by omega) (fun _ => wrap_i64 (by omega) (by omega)) ?_
          refine mv rfl .no (.u rfl) ?_
          refine .nil ?_
          refine We.lpo (k + 1, m ||| (xs.getD k 0).setWidth 64 <<< (8 * k)) ?_ ?_ ?_ ?_ ?_
          · exact (ESub.cons rfl rfl (ESub.cons rfl (by first | rfl | exact evi (by omega)) (ESub.cons rfl rfl (ESub.cons rfl rfl (ESub.cons rfl rfl ESub.nil)))))
          · exact (MSub.cons .here rfl MSub.nil)
          · first | omega | (dsimp only; omega)
          · exact hGl0
          · refine ⟨?_, ?_⟩
            · (try dsimp only) <;> (first | omega | rfl | assumption | (simp; done))
            · (try dsimp only) <;> (rw [em]; rfl)
        · have c4k := c4
          try simp only [decide_eq_true_eq, decide_eq_false_iff_not, Int.not_lt, Int.not_le, gt_iff_lt, ge_iff_le, Bool.or_eq_true, Bool.and_eq_true, Bool.or_eq_false_iff, Bool.not_eq_true', Bool.not_eq_false', Int.toNat_natCast, bne_iff_ne, beq_iff_eq, bne_eq_false_iff_eq, beq_eq_false_iff_ne, ne_eq] at c4
          refine .exit ?_
          refine .xcode ?_
          refine .xlp ?_
          refine .xblk ?_
          refine .code ?_
          refine .seq ?_
          refine Wk.rg [0, 1, 2, 3, 4, 5, 6, 7, 8, 9] rfl rfl ?_
          refine mv rfl .no (.u rfl) ?_
          refine mv rfl .no (.u rfl) ?_
          refine nc rfl .no (.u rfl) ?_
          refine fz rfl .no Fx.fo145_0 (.u rfl) ?_
          refine ld rfl .no Fx.ag36 (.u rfl) (fun _ => Rd.own .here (by first | exact wap_f rfl | rfl)) ?_
          refine mv rfl .no (.u rfl) ?_
          refine kD (8) rfl .no Fx.se36 hs (.u rfl) (.u rfl) (fun _ => by omega) (fun _ => by omega) ?_
          intro h59 L59 eL59 lL59 hs59
          have lL59 := lL59 rfl
          refine nc rfl .no (.u rfl) ?_
          refine fz rfl .no Fx.fo145_0 (.u rfl) ?_
          refine s1 rfl (.u rfl) (.u rfl) rfl Fx.sz36 .here (by first | decide | (simp only [wa_len, ba_len, List.length_append, List.length_cons, List.length_nil]; omega)) (rfl) ?_
          refine .nil ?_
          refine .code ?_
          refine .seq ?_
          refine Wk.rg [0, 1] rfl rfl ?_
          refine mv rfl .no (.u rfl) ?_
          refine asg rfl .no (.u rfl) ?_
          refine .nil ?_
          refine .code ?_
          refine .ret ?_
          refine We.fin Tryd.results55 (.tmp rfl .nil) (MSub.cons .here rfl MSub.nil) ?_
          obtain rfl : k = 8 := by omega
          exact ⟨h59, by rw [eL59]; rfl, by rw [em]; rfl, by rw [← eL59]; exact hs59⟩

end Go.Proofs.YtbdnclpopappeaaDoor

namespace Go.Proofs.YtbdnclpopappeaaDoor
set_option linter.unusedSimpArgs false
set_option linter.unusedVariables false
open Go.Tan Go.RowKit

namespace Fx
theorem zq26 : zrL Tryd.prog 26 = some ([V 0#8, V 0#8, uv .u64 0#64, uv .u64 0#64, uv .u64 0#64]) := by kernel_rfl
theorem bp26_ : bPl Tryd.prog 26 [] = some ([V 0#8, V 0#8, uv .u64 0#64, uv .u64 0#64, uv .u64 0#64], []) := by kernel_rfl
theorem sz26 : szT Tryd.prog 26 = some 5 := by kernel_rfl
theorem go54 : goFn Tryd.prog 54 = true := by kernel_rfl
theorem bp26_0_1 : bPl Tryd.prog 26 [0, 1] = some ([V 0#8, V 0#8, uv .u64 0#64, uv .u64 0#64, uv .u64 0#64], [(0, 1), (1, 1)]) := by kernel_rfl
theorem go55 : goFn Tryd.prog 55 = true := by kernel_rfl
theorem sz24 : szT Tryd.prog 24 = some 1 := by kernel_rfl
theorem bs36_9 : bsT Tryd.prog 36 9 = true := by kernel_rfl
theorem go20 : goFn Tryd.prog 20 = true := by kernel_rfl
end Fx
theorem Take_ok (xs : List Y) (h : Sh) (G : PM) (hs : SlR G 1 encY h xs) (hl : xs.length ≤ 100000000000000) : Ct Tryd.prog 53 ([h.val xs.length] : List Value).toArray G [] (fun _ μ' u => μ' = [] ∧ u = .tuple #[.agg (takeH xs).1.cells.toArray, .int .i64 (takeH xs).2]) := by
  refine Ct.of Tryd.func53 rfl Tryd.ntmps53 rfl fun w0 hs0 => ?_
  refine .seq ?_
  refine Wk.rg [0, 1] rfl rfl ?_
  refine al rfl Fx.zq26 ?_; intro b2
  refine asg rfl .no (.u rfl) ?_
  refine .nil ?_
  refine .code ?_
  refine .seq ?_
  refine .seq ?_
  refine Wk.rg [0, 1, 2] rfl rfl ?_
  refine mv rfl .no (.u rfl) ?_
  refine ln rfl .no Fx.sn36 (.u rfl) ?_
  refine cp rfl .no (.u rfl) (.u rfl) rfl ?_
  refine .nil ?_
  refine .code ?_
  refine .cond rfl (fun c1 => ?_) (fun c1 => ?_)
  · have c1k := c1
    try simp only [decide_eq_true_eq, decide_eq_false_iff_not, Int.not_lt, Int.not_le, gt_iff_lt, ge_iff_le, Bool.or_eq_true, Bool.and_eq_true, Bool.or_eq_false_iff, Bool.and_eq_false_iff, Bool.not_eq_true', Bool.not_eq_false', Int.toNat_natCast, bne_iff_ne, beq_iff_eq, bne_eq_false_iff_eq, beq_eq_false_iff_ne, ne_eq] at c1
    refine .seq ?_
    refine Wk.rg [0, 1, 2] rfl rfl ?_
    refine bC rfl .no Fx.bp26_ .nil rfl ?_
    refine sw rfl (.u rfl) (.u rfl) rfl Fx.sz26 .here (by first | exact (ba_len _ _).trans (ba_len _ _).symm | exact (wa_len _ _).trans (wa_len _ _).symm | exact ba_len _ _ | exact wa_len _ _ | rfl | (simp only [wa_len, ba_len, List.length_append, List.length_cons, List.length_nil])) (one5 rfl rfl rfl rfl rfl) ?_
    refine asg rfl .no (.u rfl) ?_
    refine .nil ?_
    refine .code ?_
    refine .ret ?_
    refine We.fin0 Tryd.results53 (.cell rfl (fun w hw => run_loadVarN Fx.ag26 (RdN.own .here) ((by first | exact (ba_len _ _).trans (ba_len _ _).symm | exact (wa_len _ _).trans (wa_len _ _).symm | exact ba_len _ _ | exact wa_len _ _ | rfl | (simp only [wa_len, ba_len, List.length_append, List.length_cons, List.length_nil]))) hw) (.tmp rfl .nil)) ?_
    exact ⟨rfl, by rw [take_short (by omega)]; rfl⟩
  · have c1k := c1
    try simp only [decide_eq_true_eq, decide_eq_false_iff_not, Int.not_lt, Int.not_le, gt_iff_lt, ge_iff_le, Bool.or_eq_true, Bool.and_eq_true, Bool.or_eq_false_iff, Bool.and_eq_false_iff, Bool.not_eq_true', Bool.not_eq_false', Int.toNat_natCast, bne_iff_ne, beq_iff_eq, bne_eq_false_iff_eq, beq_eq_false_iff_ne, ne_eq] at c1
    refine .skip ?_
    refine .code ?_
    refine .seq ?_
    refine Wk.rg [0, 1, 2, 3] rfl rfl ?_
    refine mv rfl .no (.u rfl) ?_
    refine kS (6) (30) rfl .no Fx.se36 hs (.u rfl) (.u rfl) (.u rfl) (fun _ => by omega) (fun _ => by omega) (fun _ => by omega) (fun _ => by omega) ?_
    intro h11 L11 eL11 lL11 hs11
    have lL11 := lL11 rfl
    refine kc rfl Fx.go54 (Eva.cons (.u rfl) Eva.nil) (wcNew_ok L11 h11 _ hs11 (by omega)) ?_
    rintro _ G12 μ12 hG12 ⟨b12, sn0, rfl, rfl, hsn0⟩
    have hs := hs.mono hG12
    have hs11 := hs11.mono hG12
    refine asg rfl .no (.u rfl) ?_
    refine .nil ?_
    refine .code ?_
    refine .seq ?_
    refine Wk.draw (mc := ⟨false, false⟩) [0, 1, 2, 3, 4, 5, 6, 7, 8] Fx.mix (by kernel_rfl) ?_
    refine mv rfl .no (.u rfl) ?_
    refine ih rfl .no Fx.se36 (.u rfl) (.u rfl) (fun _ => by omega) (fun _ => by omega) (fun _ => hs.nn (k := 4) (by omega)) ?_
    refine ld rfl .no Fx.ag5 (.u rfl) (fun _ => (hs.yat (4) (by omega) (by omega)).rd) ?_
    refine mv rfl .no (.u rfl) ?_
    refine ih rfl .no Fx.se36 (.u rfl) (.u rfl) (fun _ => by omega) (fun _ => by omega) (fun _ => hs.nn (k := 5) (by omega)) ?_
    refine ld rfl .no Fx.ag5 (.u rfl) (fun _ => (hs.yat (5) (by omega) (by omega)).rd) ?_
    refine bCe ([V (xs.getD 4 0), V (xs.getD 5 0), uv .u64 0#64, uv .u64 0#64, uv .u64 0#64]) rfl .no Fx.bp26_0_1 (.cons (.u rfl) rfl (.cons (.u rfl) rfl .nil)) rfl (rfl) ?_
    refine al rfl Fx.zq26 ?_; intro b5
    refine sw rfl (.u rfl) (.u rfl) rfl Fx.sz26 .here (by first | exact (ba_len _ _).trans (ba_len _ _).symm | exact (wa_len _ _).trans (wa_len _ _).symm | exact ba_len _ _ | exact wa_len _ _ | rfl | (simp only [wa_len, ba_len, List.length_append, List.length_cons, List.length_nil])) (one5 rfl rfl rfl rfl rfl) ?_
    refine .nil ?_
    refine .code ?_
    refine .seq ?_
    refine Wk.rg [0, 1, 2, 3] rfl rfl ?_
    refine mv rfl .no (.u rfl) ?_
    refine ka rfl (.inr rfl) Fx.go55 (Eva.cons (.u rfl) (Eva.cons (.u rfl) Eva.nil)) (mtk1 (.there .here)) (rdFix_ok L11 sn0 _ _ hsn0 (by (try simp only [List.length_drop]); omega) (by (try simp only [List.length_drop]); omega)) ?_
    rintro _ G21 μ21 hG21 ⟨sn1, rfl, rfl, hsn1⟩
    have hs := hs.mono hG21
    have hs11 := hs11.mono hG21
    have hsn0 := hsn0.mono hG21
    refine fz rfl .no Fx.fo26_2 (.u rfl) ?_
    refine s1 rfl (.u rfl) (.u rfl) rfl Fx.sz24 (.there .here) (show 2 < 5 by decide) (rfl) ?_
    refine .nil ?_
    refine .code ?_
    refine .seq ?_
    refine Wk.rg [0, 1, 2, 3] rfl rfl ?_
    refine mv rfl .no (.u rfl) ?_
    refine ka rfl (.inr rfl) Fx.go55 (Eva.cons (.u rfl) (Eva.cons (.u rfl) Eva.nil)) (mtk1 (.there .here)) (rdFix_ok (L11.drop 8) sn1 _ _ hsn1 (by (try simp only [List.length_drop]); omega) (by (try simp only [List.length_drop]); omega)) ?_
    rintro _ G24 μ24 hG24 ⟨sn2, rfl, rfl, hsn2⟩
    have hs := hs.mono hG24
    have hs11 := hs11.mono hG24
    have hsn0 := hsn0.mono hG24
    have hsn1 := hsn1.mono hG24
    refine fz rfl .no Fx.fo26_3 (.u rfl) ?_
    refine s1 rfl (.u rfl) (.u rfl) rfl Fx.sz24 (.there .here) (show 3 < 5 by decide) (rfl) ?_
    refine .nil ?_
    refine .code ?_
    refine .seq ?_
    refine Wk.rg [0, 1, 2, 3] rfl rfl ?_
    refine mv rfl .no (.u rfl) ?_
    refine ka rfl (.inr rfl) Fx.go55 (Eva.cons (.u rfl) (Eva.cons (.u rfl) Eva.nil)) (mtk1 (.there .here)) (rdFix_ok ((L11.drop 8).drop 8) sn2 _ _ hsn2 (by (try simp only [List.length_drop]); omega) (by (try simp only [List.length_drop]); omega)) ?_
    rintro _ G27 μ27 hG27 ⟨sn3, rfl, rfl, hsn3⟩
    have hs := hs.mono hG27
    have hs11 := hs11.mono hG27
    have hsn0 := hsn0.mono hG27
    have hsn1 := hsn1.mono hG27
    have hsn2 := hsn2.mono hG27
    refine fz rfl .no Fx.fo26_4 (.u rfl) ?_
    refine s1 rfl (.u rfl) (.u rfl) rfl Fx.sz24 (.there .here) (show 4 < 5 by decide) (rfl) ?_
    refine .nil ?_
    refine .code ?_
    refine .seq ?_
    refine .seq ?_
    refine Wk.rg [0, 1, 2, 3, 4, 5, 6, 7, 8] rfl rfl ?_
    refine mv rfl .no (.u rfl) ?_
    refine kE (4) rfl .no Fx.se36 hs (.u rfl) (.u rfl) (fun _ => by omega) (fun _ => by omega) ?_
    intro h30 L30 eL30 lL30 hs30
    have lL30 := lL30 rfl
    refine sB rfl .no Fx.bs36_9 (.u rfl) (fun _ => hs30.sc) ?_
    refine cs rfl .no (.u rfl) (.u rfl) rfl ?_
    refine mv rfl .no (.u rfl) ?_
    refine lA rfl (.f rfl rfl) Fx.ag26 (.u rfl) (fun _ => RdN.own .here) (fun _ => (by first | exact (ba_len _ _).trans (ba_len _ _).symm | exact (wa_len _ _).trans (wa_len _ _).symm | exact ba_len _ _ | exact wa_len _ _ | rfl | (simp only [wa_len, ba_len, List.length_append, List.length_cons, List.length_nil]))) ?_
    refine kv rfl (.f rfl rfl) Fx.go20 (Eva.cons (.s rfl) Eva.nil) (fun hc => nRight_ok ⟨xs.getD 4 0, xs.getD 5 0, unfK L11 8, unfK (L11.drop 8) 8, unfK ((L11.drop 8).drop 8) 8⟩ _) ?_
    refine nt rfl (.f rfl rfl) (.s rfl) ?_
    refine pkO rfl .no (.u rfl) (.s rfl) ?_
    refine .nil ?_
    refine .code ?_
    refine .cond rfl (fun c2 => ?_) (fun c2 => ?_)
    · have c2k := c2
      try simp only [decide_eq_true_eq, decide_eq_false_iff_not, Int.not_lt, Int.not_le, gt_iff_lt, ge_iff_le, Bool.or_eq_true, Bool.and_eq_true, Bool.or_eq_false_iff, Bool.and_eq_false_iff, Bool.not_eq_true', Bool.not_eq_false', Int.toNat_natCast, bne_iff_ne, beq_iff_eq, bne_eq_false_iff_eq, beq_eq_false_iff_ne, ne_eq] at c2
      refine .seq ?_
      refine Wk.rg [0, 1, 2] rfl rfl ?_
      refine bC rfl .no Fx.bp26_ .nil rfl ?_
      refine sw rfl (.u rfl) (.u rfl) rfl Fx.sz26 (.there (.there .here)) (by first | exact (ba_len _ _).trans (ba_len _ _).symm | exact (wa_len _ _).trans (wa_len _ _).symm | exact ba_len _ _ | exact wa_len _ _ | rfl | (simp only [wa_len, ba_len, List.length_append, List.length_cons, List.length_nil])) (one5 rfl rfl rfl rfl rfl) ?_
      refine asg rfl .no (.u rfl) ?_
      refine .nil ?_
      refine .code ?_
      refine .ret ?_
      refine We.fin0 Tryd.results53 (.cell rfl (fun w hw => run_loadVarN Fx.ag26 (RdN.own .here) ((by first | exact (ba_len _ _).trans (ba_len _ _).symm | exact (wa_len _ _).trans (wa_len _ _).symm | exact ba_len _ _ | exact wa_len _ _ | rfl | (simp only [wa_len, ba_len, List.length_append, List.length_cons, List.length_nil]))) hw) (.tmp rfl .nil)) ?_
      rw [head_at eL11] at c2k
      exact ⟨rfl, by rw [take_bad (by omega) (fun hq => take_c2 eL30 c2k hq)]; rfl⟩
    · have c2k := c2
      try simp only [decide_eq_true_eq, decide_eq_false_iff_not, Int.not_lt, Int.not_le, gt_iff_lt, ge_iff_le, Bool.or_eq_true, Bool.and_eq_true, Bool.or_eq_false_iff, Bool.and_eq_false_iff, Bool.not_eq_true', Bool.not_eq_false', Int.toNat_natCast, bne_iff_ne, beq_iff_eq, bne_eq_false_iff_eq, beq_eq_false_iff_ne, ne_eq] at c2
      refine .skip ?_
      refine .code ?_
      refine .seq ?_
      refine Wk.rg [0, 1, 2] rfl rfl ?_
      refine lA rfl .no Fx.ag26 (.u rfl) (fun _ => RdN.own .here) (fun _ => (by first | exact (ba_len _ _).trans (ba_len _ _).symm | exact (wa_len _ _).trans (wa_len _ _).symm | exact ba_len _ _ | exact wa_len _ _ | rfl | (simp only [wa_len, ba_len, List.length_append, List.length_cons, List.length_nil]))) ?_
      refine sw rfl (.u rfl) (.u rfl) rfl Fx.sz26 (.there (.there .here)) (by first | exact (ba_len _ _).trans (ba_len _ _).symm | exact (wa_len _ _).trans (wa_len _ _).symm | exact ba_len _ _ | exact wa_len _ _ | rfl | (simp only [wa_len, ba_len, List.length_append, List.length_cons, List.length_nil])) (one5 rfl rfl rfl rfl rfl) ?_
      refine asg rfl .no (.u rfl) ?_
      refine .nil ?_
      refine .code ?_
      refine .ret ?_
      refine We.fin0 Tryd.results53 (.cell rfl (fun w hw => run_loadVarN Fx.ag26 (RdN.own .here) ((by first | exact (ba_len _ _).trans (ba_len _ _).symm | exact (wa_len _ _).trans (wa_len _ _).symm | exact ba_len _ _ | exact wa_len _ _ | rfl | (simp only [wa_len, ba_len, List.length_append, List.length_cons, List.length_nil]))) hw) (.tmp rfl .nil)) ?_
      rw [head_at eL11] at c2k
      exact ⟨rfl, by rw [take_good (by omega) (take_c3 eL30 c2k), ← head_at eL11]; rfl⟩

end Go.Proofs.YtbdnclpopappeaaDoor

namespace Go.Proofs.YtbdnclpopappeaaDoor
set_option linter.unusedSimpArgs false
set_option linter.unusedVariables false
open Go.Tan Go.RowKit


end Go.Proofs.YtbdnclpopappeaaDoor

namespace Go.Proofs.YtbdnclpopappeaaDoor
set_option linter.unusedSimpArgs false
set_option linter.unusedVariables false
open Go.Tan Go.RowKit

theorem take_eq_step {A B : List Y} {k : Nat} (he : A.take k = B.take k) (h1 : k < A.length) (h2 : k < B.length) (h : A.getD k 0 = B.getD k 0) : A.take (k + 1) = B.take (k + 1) := by
  rw [List.take_succ_eq_append_getElem h1, List.take_succ_eq_append_getElem h2, he]
  have e1 : A.getD k 0 = A[k] := by simp [h1]
  have e2 : B.getD k 0 = B[k] := by simp [h2]
  rw [← e1, ← e2, h]
theorem byte_ne {a b : Y} {A B : List Y} {k : Nat} (ha : A.getD k 0 = a) (hb : B.getD k 0 = b) (h : ¬ (a.toNat : Int) = b.toNat) : ¬ A = B := fun e => h (by rw [← ha, ← hb, e])
theorem byte_same {a b : Y} (h : (a.toNat : Int) = b.toNat) : a = b := BitVec.eq_of_toNat_eq (by omega)
theorem sEqual_ok (A B : List Y) (ha hb : Sh) (G : PM) (hsa : SlR G 1 encY ha A) (hsb : SlR G 1 encY hb B) (hl : A.length ≤ 100000000000000) : Ct Tryd.prog 78 ([ha.val A.length, hb.val B.length] : List Value).toArray G [] (fun _ μ' u => μ' = [] ∧ u = .bool (decide (A = B))) := by
  refine Ct.of Tryd.func78 rfl Tryd.ntmps78 rfl fun w0 hs0 => ?_
  refine .seq ?_
  refine Wk.rg [0] rfl rfl ?_
  refine asg rfl .no (.u rfl) ?_
  refine .nil ?_
  refine .code ?_
  refine .seq ?_
  refine .seq ?_
  refine Wk.rg [0, 1, 2, 3, 4] rfl rfl ?_
  refine mv rfl .no (.u rfl) ?_
  refine ln rfl .no Fx.sn36 (.u rfl) ?_
  refine mv rfl .no (.u rfl) ?_
  refine ln rfl .no Fx.sn36 (.u rfl) ?_
  refine cp rfl .no (.u rfl) (.u rfl) rfl ?_
  refine .nil ?_
  refine .code ?_
  refine .cond rfl (fun c1 => ?_) (fun c1 => ?_)
  · have c1k := c1
    try simp only [decide_eq_true_eq, decide_eq_false_iff_not, Int.not_lt, Int.not_le, gt_iff_lt, ge_iff_le, Bool.or_eq_true, Bool.and_eq_true, Bool.or_eq_false_iff, Bool.not_eq_true', Bool.not_eq_false', Int.toNat_natCast, bne_iff_ne, beq_iff_eq, bne_eq_false_iff_eq, beq_eq_false_iff_ne, ne_eq] at c1
    refine .seq ?_
    refine Wk.rg [0] rfl rfl ?_
    refine asg rfl .no (.u rfl) ?_
    refine .nil ?_
    refine .code ?_
    refine .ret ?_
    refine We.fin0 Tryd.results78 (.tmp rfl .nil) ?_
    exact ⟨rfl, congrArg Value.bool (decide_eq_false (fun e => c1 (by rw [e]))).symm⟩
  · have c1k := c1
    try simp only [decide_eq_true_eq, decide_eq_false_iff_not, Int.not_lt, Int.not_le, gt_iff_lt, ge_iff_le, Bool.or_eq_true, Bool.and_eq_true, Bool.or_eq_false_iff, Bool.not_eq_true', Bool.not_eq_false', Int.toNat_natCast, bne_iff_ne, beq_iff_eq, bne_eq_false_iff_eq, beq_eq_false_iff_ne, ne_eq] at c1
    refine .skip ?_
    refine .code ?_
    refine .seq ?_
    refine .seq ?_
    refine Wk.rg [0, 1, 2] rfl rfl ?_
    refine mv rfl .no (.u rfl) ?_
    refine ln rfl .no Fx.sn36 (.u rfl) ?_
    refine mv rfl .no (.u rfl) ?_
    refine .nil ?_
    refine .code ?_
    refine .block ?_
    refine Wk.lop (α := Nat) (fun k => [(13, true, .int .i64 (k : Int))]) (fun _ => [])
      (fun k Gl => (k ≤ A.length) ∧ (A.take k = B.take k)) (fun k => A.length - k) 0 [(0, true, _), (1, true, _), (12, true, _)] []
      (ESub.cons rfl (by first | rfl | exact evi (by omega)) (ESub.cons rfl rfl (ESub.cons rfl rfl (ESub.cons rfl rfl ESub.nil))))
      MSub.nil ?_ ?_
    · refine ⟨?_, ?_⟩
      · (try dsimp only) <;> (first | omega | rfl | assumption | (simp; done))
      · (try dsimp only) <;> (rfl)
    intro k N0 Gl0 hN0 hGl0 hF0
    try dsimp only at hF0 hN0 ⊢
    obtain ⟨hk, he⟩ := hF0
    have hsa := hsa.mono hGl0
    have hsb := hsb.mono hGl0
    refine .seq ?_
    refine Wk.rg [0] rfl rfl ?_
    refine cp rfl .no (.u rfl) (.u rfl) rfl ?_
    refine .nil ?_
    refine .code ?_
    refine .seq ?_
    refine .cond rfl (fun c2 => ?_) (fun c2 => ?_)
    · have c2k := c2
      try simp only [decide_eq_true_eq, decide_eq_false_iff_not, Int.not_lt, Int.not_le, gt_iff_lt, ge_iff_le, Bool.or_eq_true, Bool.and_eq_true, Bool.or_eq_false_iff, Bool.not_eq_true', Bool.not_eq_false', Int.toNat_natCast, bne_iff_ne, beq_iff_eq, bne_eq_false_iff_eq, beq_eq_false_iff_ne, ne_eq] at c2
      refine .skip ?_
      refine .code ?_
      refine .seq ?_
      refine .block ?_
      refine .seq ?_
      refine Wk.rg [0, 1] rfl rfl ?_
      refine mv rfl .no (.u rfl) ?_
      refine asg rfl .no (.u rfl) ?_
      refine .nil ?_
      refine .code ?_
      refine .seq ?_
      refine Wk.draw (mc := ⟨false, false⟩) [0, 1, 2, 3, 4, 5, 6, 7, 8] Fx.mix (by kernel_rfl) ?_
      refine mv rfl .no (.u rfl) ?_
      refine mv rfl .no (.u rfl) ?_
      refine ih rfl .no Fx.se36 (.u rfl) (.u rfl) (fun _ => by omega) (fun _ => by omega) (fun _ => hsa.nn (k := k) (by omega)) ?_
      refine ld rfl .no Fx.ag5 (.u rfl) (fun _ => (hsa.yat (k) (by omega) (by omega)).rd) ?_
      refine mv rfl .no (.u rfl) ?_
      refine mv rfl .no (.u rfl) ?_
      refine ih rfl .no Fx.se36 (.u rfl) (.u rfl) (fun _ => by omega) (fun _ => by omega) (fun _ => hsb.nn (k := k) (by omega)) ?_
      refine ld rfl .no Fx.ag5 (.u rfl) (fun _ => (hsb.yat (k) (by omega) (by omega)).rd) ?_
      refine cp rfl .no (.u rfl) (.u rfl) rfl ?_
      refine .nil ?_
      refine .code ?_
      refine .cond rfl (fun c3 => ?_) (fun c3 => ?_)
      · have c3k := c3
        try simp only [decide_eq_true_eq, decide_eq_false_iff_not, Int.not_lt, Int.not_le, gt_iff_lt, ge_iff_le, Bool.or_eq_true, Bool.and_eq_true, Bool.or_eq_false_iff, Bool.not_eq_true', Bool.not_eq_false', Int.toNat_natCast, bne_iff_ne, beq_iff_eq, bne_eq_false_iff_eq, beq_eq_false_iff_ne, ne_eq] at c3
        refine .seq ?_
        refine Wk.rg [0] rfl rfl ?_
        refine asg rfl .no (.u rfl) ?_
        refine .nil ?_
        refine .code ?_
        refine .ret ?_
        refine We.fin0 Tryd.results78 (.tmp rfl .nil) ?_
        exact ⟨rfl, congrArg Value.bool (decide_eq_false (byte_ne rfl rfl c3)).symm⟩
      · have c3k := c3
        try simp only [decide_eq_true_eq, decide_eq_false_iff_not, Int.not_lt, Int.not_le, gt_iff_lt, ge_iff_le, Bool.or_eq_true, Bool.and_eq_true, Bool.or_eq_false_iff, Bool.not_eq_true', Bool.not_eq_false', Int.toNat_natCast, bne_iff_ne, beq_iff_eq, bne_eq_false_iff_eq, beq_eq_false_iff_ne, ne_eq] at c3
        refine .skip ?_
        refine .blk ?_
        refine .code ?_
        refine Wk.rg [0, 1] rfl rfl ?_
        refine arn (((k + 1) : Nat) : Int) rfl .no (.u rfl) (.u rfl) rfl (fun _ => by omega) (fun _ => wrap_i64 (by omega) (by omega)) ?_
        refine mv rfl .no (.u rfl) ?_
        refine .nil ?_
        refine We.lpo (k + 1) ?_ ?_ ?_ ?_ ?_
        · exact (ESub.cons rfl (by first | rfl | exact evi (by omega)) (ESub.cons rfl rfl (ESub.cons rfl rfl (ESub.cons rfl rfl ESub.nil))))
        · exact MSub.nil
        · first | omega | (dsimp only; omega)
        · exact hGl0
        · refine ⟨?_, ?_⟩
          · (try dsimp only) <;> (first | omega | rfl | assumption | (simp; done))
          · (try dsimp only) <;> (exact take_eq_step he (by omega) (by omega) (byte_same c3))
    · have c2k := c2
      try simp only [decide_eq_true_eq, decide_eq_false_iff_not, Int.not_lt, Int.not_le, gt_iff_lt, ge_iff_le, Bool.or_eq_true, Bool.and_eq_true, Bool.or_eq_false_iff, Bool.not_eq_true', Bool.not_eq_false', Int.toNat_natCast, bne_iff_ne, beq_iff_eq, bne_eq_false_iff_eq, beq_eq_false_iff_ne, ne_eq] at c2
      refine .exit ?_
      refine .xcode ?_
      refine .xlp ?_
      refine .xblk ?_
      refine .code ?_
      refine .seq ?_
      refine Wk.rg [0] rfl rfl ?_
      refine asg rfl .no (.u rfl) ?_
      refine .nil ?_
      refine .code ?_
      refine .ret ?_
      refine We.fin0 Tryd.results78 (.tmp rfl .nil) ?_
      exact ⟨rfl, congrArg Value.bool (decide_eq_true (by have h1 := he; rw [show k = A.length by omega, List.take_length, List.take_of_length_le (by omega)] at h1; exact h1)).symm⟩

end Go.Proofs.YtbdnclpopappeaaDoor

namespace Go.Proofs.YtbdnclpopappeaaDoor
set_option linter.unusedSimpArgs false
set_option linter.unusedVariables false
open Go.Tan Go.RowKit

end Go.Proofs.YtbdnclpopappeaaDoor
