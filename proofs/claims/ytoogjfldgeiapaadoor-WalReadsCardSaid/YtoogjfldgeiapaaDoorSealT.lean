/- Contracts of functions, walked. -/
import Derived.Test.YtoogjfldgeiapaaDoorSealS
namespace Go.Proofs.YtoogjfldgeiapaaDoor
set_option linter.unusedSimpArgs false
set_option linter.unusedVariables false
open Go.Tan Go.RowKit

namespace Fx
theorem zv27 : (Tryd.prog.info? 27).bind (·.zero) = some (.slice none 0 0) := by kernel_rfl
theorem go56 : goFn Tryd.prog 56 = true := by kernel_rfl
end Fx
theorem SlP.one {G : PM} {b T : Nat} {h1 : Sh} {L1 : List Y} (hle : PM.le G (G.add b (cl [h1.val L1.length] T))) (hs : SlR G 1 encY h1 L1) : SlP (G.add b (cl [h1.val L1.length] T)) ⟨some ⟨b, 0, none⟩, 1⟩ [(h1, L1)] :=
  ⟨SlR.ofBlk (T := T) (PM.add_same _ _ _) (fun _ _ => rfl) (by simp), fun p hp => by rw [List.mem_singleton.1 hp]; exact hs.mono hle⟩
theorem SlP.two {G : PM} {b T : Nat} {h1 h2 : Sh} {L1 L2 : List Y} (hle : PM.le G (G.add b (cl [h1.val L1.length, h2.val L2.length] T))) (hs : SlR G 1 encY h1 L1) (hs2 : SlR G 1 encY h2 L2) : SlP (G.add b (cl [h1.val L1.length, h2.val L2.length] T)) ⟨some ⟨b, 0, none⟩, 2⟩ [(h1, L1), (h2, L2)] :=
  ⟨SlR.ofBlk (T := T) (PM.add_same _ _ _) (fun _ _ => rfl) (by simp), fun p hp => by
    rcases List.mem_cons.1 hp with rfl | hp
    · exact hs.mono hle
    · rw [List.mem_singleton.1 hp]; exact hs2.mono hle⟩
theorem SlP.four {G : PM} {b T : Nat} {h1 h2 h3 h4 : Sh} {L1 L2 L3 L4 : List Y} (hle : PM.le G (G.add b (cl [h1.val L1.length, h2.val L2.length, h3.val L3.length, h4.val L4.length] T))) (hs : SlR G 1 encY h1 L1) (hs2 : SlR G 1 encY h2 L2) (hs3 : SlR G 1 encY h3 L3) (hs4 : SlR G 1 encY h4 L4) :
    SlP (G.add b (cl [h1.val L1.length, h2.val L2.length, h3.val L3.length, h4.val L4.length] T)) ⟨some ⟨b, 0, none⟩, 4⟩ [(h1, L1), (h2, L2), (h3, L3), (h4, L4)] :=
  ⟨SlR.ofBlk (T := T) (PM.add_same _ _ _) (fun _ _ => rfl) (by simp), fun p hp => by
    simp only [List.mem_cons, List.not_mem_nil, or_false] at hp
    rcases hp with rfl | rfl | rfl | rfl
    · exact hs.mono hle
    · exact hs2.mono hle
    · exact hs3.mono hle
    · exact hs4.mono hle⟩
theorem sum1_ok {G : PM} {b T : Nat} {h1 : Sh} {L1 : List Y} (hle : PM.le G (G.add b (cl [h1.val L1.length] T))) (hs : SlR G 1 encY h1 L1) (hK : RdNP G 1 0 (wa 64 kW)) (hl : L1.length ≤ 1152921504606846976) : Ct Tryd.prog 56 ([.slice (some ⟨b, 0, none⟩) 1 1] : List Value).toArray (G.add b (cl [h1.val L1.length] T)) [] (fun _ μ' u => μ' = [] ∧ u = .agg (ba 32 (shaD L1)).toArray) := by
  have h := shaSum_ok [(h1, L1)] ⟨some ⟨b, 0, none⟩, 1⟩ _ (SlP.one hle hs) (hK.mono hle) (by simpa [catL] using hl) (by simp)
  rw [show catL [(h1, L1)] = L1 by simp [catL]] at h
  exact h
theorem sum2_ok {G : PM} {b T : Nat} {h1 h2 : Sh} {L1 L2 : List Y} (hle : PM.le G (G.add b (cl [h1.val L1.length, h2.val L2.length] T))) (hs : SlR G 1 encY h1 L1) (hs2 : SlR G 1 encY h2 L2) (hK : RdNP G 1 0 (wa 64 kW)) (hl : L1.length + L2.length ≤ 1152921504606846976) : Ct Tryd.prog 56 ([.slice (some ⟨b, 0, none⟩) 2 2] : List Value).toArray (G.add b (cl [h1.val L1.length, h2.val L2.length] T)) [] (fun _ μ' u => μ' = [] ∧ u = .agg (ba 32 (shaD (L1 ++ L2))).toArray) := by
  have h := shaSum_ok [(h1, L1), (h2, L2)] ⟨some ⟨b, 0, none⟩, 2⟩ _ (SlP.two hle hs hs2) (hK.mono hle) (by simpa [catL] using hl) (by simp)
  rw [show catL [(h1, L1), (h2, L2)] = L1 ++ L2 by simp [catL]] at h
  exact h
theorem outs_step2 {f g : Nat → Y} {k : Nat} {a b : Y} (ef : f = outs g k) (h : b = g k) : upd (upd f k a) k b = outs g (k + 1) := by
  rw [upd_upd, ef, h]; rfl
theorem outs_step1 {f g : Nat → Y} {k : Nat} {a : Y} (ef : f = outs g k) (h : a = g k) : upd f k a = outs g (k + 1) := by
  rw [ef, h]; rfl
theorem pads_ok (key : List Y) (h : Sh) (G : PM) (hs : SlR G 1 encY h key) (hK : RdNP G 1 0 (wa 64 kW)) (hl : key.length ≤ 140737488351232) : Ct Tryd.prog 52 ([h.val key.length] : List Value).toArray G [] (fun _ μ' u => μ' = [] ∧ u = .tuple #[.agg (ba 64 (padF key 54#8)).toArray, .agg (ba 64 (padF key 92#8)).toArray]) := by
  refine Ct.of Tryd.func52 rfl Tryd.ntmps52 rfl fun w0 hs0 => ?_
  refine .seq ?_
  refine Wk.rg [0, 1] rfl rfl ?_
  refine al rfl Fx.zr85 ?_; intro b2
  refine al rfl Fx.zr85 ?_; intro b3
  refine .nil ?_
  refine .code ?_
  refine .seq ?_
  refine .seq ?_
  refine Wk.rg [0, 1, 2] rfl rfl ?_
  refine mv rfl .no (.u rfl) ?_
  refine ln rfl .no Fx.sn27 (.u rfl) ?_
  refine cp rfl .no (.u rfl) (.u rfl) rfl ?_
  refine .nil ?_
  refine .code ?_
  refine .cond rfl (fun c1 => ?_) (fun c1 => ?_)
  · have c1k := c1
    try simp only [decide_eq_true_eq, decide_eq_false_iff_not, Int.not_lt, Int.not_le, gt_iff_lt, ge_iff_le, Bool.or_eq_true, Bool.and_eq_true, Bool.or_eq_false_iff, Bool.not_eq_true', Bool.not_eq_false', Int.toNat_natCast, bne_iff_ne, beq_iff_eq, bne_eq_false_iff_eq, beq_eq_false_iff_ne, ne_eq] at c1
    have ek1 : keyL key = shaL key := by unfold keyL; rw [if_pos (by omega)]
    refine .seq ?_
    refine Wk.rg [0, 1, 2, 3, 4] rfl rfl ?_
    refine mv rfl .no (.u rfl) ?_
    refine Go.Tan.b1 rfl Fx.se50 Fx.zv27 (.u rfl) rfl rfl (by decide) ?_; intro b10
    refine kp rfl .no Fx.go56 (Eva.cons (.u rfl) Eva.nil) (Gp.add .here Gp.nil) (fun _ hle hq => sum1_ok hle hs hK (by omega)) ?_
    refine al rfl Fx.zr42 ?_; intro b4
    refine sw rfl (.u rfl) (.u rfl) rfl Fx.sz42 .here (by first | exact (ba_len _ _).trans (ba_len _ _).symm | exact (wa_len _ _).trans (wa_len _ _).symm | exact ba_len _ _ | exact wa_len _ _ | rfl | (simp only [wa_len, ba_len, List.length_append, List.length_cons, List.length_nil])) (by first | exact ba_one _ _ | exact wa_one _ _ | exact one_V _ | decide | exact one_app (wa_one _ _) (by simp [Value.oneCell'])) ?_
    refine .nil ?_
    refine .code ?_
    refine wk_fz .here (by intro b hb; cases hb) ?_; intro Gfb4 hleb4 hbb4
    have hs := hs.mono hleb4
    have hK := hK.mono hleb4
    refine Wk.rg [0, 1] rfl rfl ?_
    refine kA rfl .no Fx.ar42 (.u rfl) hbb4 (by first | exact ba_all | exact app_l | exact app_r) ?_; intro h12 L12 eL12 lL12 hs12
    refine asg rfl .no (.u rfl) ?_
    refine .nil ?_
    have ek1 : keyL key = L12 := by rw [ek1, eL12]; rfl
    refine .code ?_
    refine .seq ?_
    refine .seq ?_
    skip
    refine Wk.rg [0] rfl rfl ?_
    refine mv rfl .no (.u rfl) ?_
    refine .nil ?_
    refine .code ?_
    refine .block ?_
    refine Wk.lop (α := Nat × (Nat → Y) × (Nat → Y)) (fun gh => [(13, true, .int .i64 (gh.1 : Int))]) (fun gh => [.blk b3 (cl (ba 64 gh.2.2) 85), .blk b2 (cl (ba 64 gh.2.1) 85)])
      (fun gh Gl => (gh.1 ≤ 64) ∧ (gh.2.1 = outs (padF key 54#8) gh.1) ∧ (gh.2.2 = outs (padF key 92#8) gh.1)) (fun gh => 64 - gh.1) (0, fun _ => 0#8, fun _ => 0#8) [(0, true, _), (2, true, _), (3, true, _)] [_]
      (ESub.cons rfl (by first | rfl | exact evi (by omega)) (ESub.cons rfl rfl (ESub.cons rfl rfl (ESub.cons rfl rfl ESub.nil))))
      (MSub.cons (.there .here) rfl (MSub.cons (.there .here) rfl (MSub.cons .here rfl MSub.nil))) ?_ ?_
    · refine ⟨?_, ?_, ?_⟩
      · (try dsimp only) <;> (first | omega | rfl | assumption | (simp; done))
      · (try dsimp only) <;> (first | omega | rfl | assumption | (simp; done))
      · (try dsimp only) <;> (first | omega | rfl | assumption | (simp; done))
    intro gh N0 Gl0 hN0 hGl0 hF0
    obtain ⟨k, f, f2⟩ := gh; dsimp only at hF0 hN0 ⊢
    obtain ⟨hk, ef, ef2⟩ := hF0
    have hs := hs.mono hGl0
    have hK := hK.mono hGl0
    have hbb4 := hbb4.mono hGl0
    have hs12 := hs12.mono hGl0
    refine .seq ?_
    refine Wk.rg [0] rfl rfl ?_
    refine cp rfl .no (.u rfl) (.u rfl) rfl ?_
    refine .nil ?_
    refine .code ?_
    refine .seq ?_
    refine .cond rfl (fun c2 => ?_) (fun c2 => ?_)
    · have c2k := c2
      try simp only [decide_eq_true_eq, decide_eq_false_iff_not, Int.not_lt, Int.not_le, gt_iff_lt, ge_iff_le, Bool.or_eq_true, Bool.and_eq_true, Bool.or_eq_false_iff, Bool.not_eq_true', Bool.not_eq_false', Int.toNat_natCast, bne_iff_ne, beq_iff_eq, bne_eq_false_iff_eq, beq_eq_false_iff_ne, ne_eq] at c2
      refine .skip ?_
      refine .code ?_
      refine .seq ?_
      refine .block ?_
      refine .seq ?_
      refine Wk.rg [0, 1] rfl rfl ?_
      refine mv rfl .no (.u rfl) ?_
      refine asg rfl .no (.u rfl) ?_
      refine .nil ?_
      refine .code ?_
      refine .seq ?_
      refine Wk.rg [0, 1, 2, 3, 4, 5] rfl rfl ?_
      refine mv rfl .no (.u rfl) ?_
      refine mv rfl .no (.u rfl) ?_
      refine iA rfl .no Fx.ar85 (.u rfl) (.u rfl) (fun _ => by omega) (fun _ => by omega) ?_
      refine s1 rfl (.u rfl) (.u rfl) rfl Fx.sz5 (.there .here) (by first | decide | (simp only [wa_len, ba_len, List.length_append, List.length_cons, List.length_nil]; omega)) (by first | exact ba_set1 (z := 54#8) (k) (by omega) | exact wa_set1 (z := 54#32) (k) (by omega) | rfl) ?_
      refine iA rfl .no Fx.ar85 (.u rfl) (.u rfl) (fun _ => by omega) (fun _ => by omega) ?_
      refine s1 rfl (.u rfl) (.u rfl) rfl Fx.sz5 (.there .here) (by first | decide | (simp only [wa_len, ba_len, List.length_append, List.length_cons, List.length_nil]; omega)) (by first | exact ba_set1 (z := 92#8) (k) (by omega) | exact wa_set1 (z := 92#32) (k) (by omega) | rfl) ?_
      refine .nil ?_
      refine .code ?_
      refine .seq ?_
      refine Wk.rg [0, 1, 2, 3] rfl rfl ?_
      refine mv rfl .no (.u rfl) ?_
      refine mv rfl .no (.u rfl) ?_
      refine ln rfl .no Fx.sn27 (.u rfl) ?_
      refine cp rfl .no (.u rfl) (.u rfl) rfl ?_
      refine .nil ?_
      refine .code ?_
      refine .cond rfl (fun c3 => ?_) (fun c3 => ?_)
      · have c3k := c3
        try simp only [decide_eq_true_eq, decide_eq_false_iff_not, Int.not_lt, Int.not_le, gt_iff_lt, ge_iff_le, Bool.or_eq_true, Bool.and_eq_true, Bool.or_eq_false_iff, Bool.not_eq_true', Bool.not_eq_false', Int.toNat_natCast, bne_iff_ne, beq_iff_eq, bne_eq_false_iff_eq, beq_eq_false_iff_ne, ne_eq] at c3
        refine .seq ?_
        refine Wk.draw (mc := ⟨false, false⟩) [0, 1, 2, 3, 4, 5, 6, 7, 8, 9] Fx.mix (by kernel_rfl) ?_
        refine mv rfl .no (.u rfl) ?_
        refine iA rfl .no Fx.ar85 (.u rfl) (.u rfl) (fun _ => by omega) (fun _ => by omega) ?_
        refine ld rfl .no Fx.ag5 (.u rfl) (fun _ => Rd.own (.there .here) (by first | exact wa_at1 (k) (by omega) (by omega) | exact ba_at1 (k) (by omega) (by omega) | exact wap_at1 (k) (by omega) (by omega) | rfl)) ?_
        refine mv rfl .no (.u rfl) ?_
        refine mv rfl .no (.u rfl) ?_
        refine ih rfl .no Fx.se27 (.u rfl) (.u rfl) (fun _ => by omega) (fun _ => by omega) (fun _ => hs12.nn (k := k) (by omega)) ?_
        refine ld rfl .no Fx.ag5 (.u rfl) (fun _ => (hs12.yat (k) (by omega) (by omega)).rd) ?_
        refine bw (k := .u8) rfl .no rfl (.u rfl) (.u rfl) rfl ?_
        refine iA rfl .no Fx.ar85 (.u rfl) (.u rfl) (fun _ => by omega) (fun _ => by omega) ?_
        refine s1 rfl (.u rfl) (.u rfl) rfl Fx.sz5 (.there .here) (by first | decide | (simp only [wa_len, ba_len, List.length_append, List.length_cons, List.length_nil]; omega)) (by first | exact wa_set1 (k) (by omega) | exact ba_set1 (k) (by omega) | exact wap_set1 (k) (by omega) (by omega) | rfl) ?_
        refine .nil ?_
        refine .code ?_
        refine Wk.draw (mc := ⟨false, false⟩) [0, 1, 2, 3, 4, 5, 6, 7, 8, 9] Fx.mix (by kernel_rfl) ?_
        refine mv rfl .no (.u rfl) ?_
        refine iA rfl .no Fx.ar85 (.u rfl) (.u rfl) (fun _ => by omega) (fun _ => by omega) ?_
        refine ld rfl .no Fx.ag5 (.u rfl) (fun _ => Rd.own (.there .here) (by first | exact wa_at1 (k) (by omega) (by omega) | exact ba_at1 (k) (by omega) (by omega) | exact wap_at1 (k) (by omega) (by omega) | rfl)) ?_
        refine mv rfl .no (.u rfl) ?_
        refine mv rfl .no (.u rfl) ?_
        refine ih rfl .no Fx.se27 (.u rfl) (.u rfl) (fun _ => by omega) (fun _ => by omega) (fun _ => hs12.nn (k := k) (by omega)) ?_
        refine ld rfl .no Fx.ag5 (.u rfl) (fun _ => (hs12.yat (k) (by omega) (by omega)).rd) ?_
        refine bw (k := .u8) rfl .no rfl (.u rfl) (.u rfl) rfl ?_
        refine iA rfl .no Fx.ar85 (.u rfl) (.u rfl) (fun _ => by omega) (fun _ => by omega) ?_
        refine s1 rfl (.u rfl) (.u rfl) rfl Fx.sz5 (.there .here) (by first | decide | (simp only [wa_len, ba_len, List.length_append, List.length_cons, List.length_nil]; omega)) (by first | exact wa_set1 (k) (by omega) | exact ba_set1 (k) (by omega) | exact wap_set1 (k) (by omega) (by omega) | rfl) ?_
        refine .nil ?_
        refine .blk ?_
        refine .code ?_
        refine Wk.rg [0, 1] rfl rfl ?_
        refine arn (((k + 1) : Nat) : Int) rfl .no (.u rfl) (.u rfl) rfl (fun _ => by omega) (fun _ => wrap_i64 (by omega) (by omega)) ?_
        refine mv rfl .no (.u rfl) ?_
        refine .nil ?_
        refine We.lpo (k + 1, upd (upd f k 54#8) k (upd f k 54#8 k ^^^ L12.getD k 0), upd (upd f2 k 92#8) k (upd f2 k 92#8 k ^^^ L12.getD k 0)) ?_ ?_ ?_ ?_ ?_
        · exact (ESub.cons rfl (by first | rfl | exact evi (by omega)) (ESub.cons rfl rfl (ESub.cons rfl rfl (ESub.cons rfl rfl ESub.nil))))
        · exact (MSub.cons .here rfl (MSub.cons .here rfl (MSub.cons .here rfl MSub.nil)))
        · first | omega | (dsimp only; omega)
        · exact hGl0
        · refine ⟨?_, ?_, ?_⟩
          · (try dsimp only) <;> (first | omega | rfl | assumption | (simp; done))
          · (try dsimp only) <;> (exact outs_step2 ef (by rw [upd_at, padF, ek1, if_pos (by omega)]))
          · (try dsimp only) <;> (exact outs_step2 ef2 (by rw [upd_at, padF, ek1, if_pos (by omega)]))
      · have c3k := c3
        try simp only [decide_eq_true_eq, decide_eq_false_iff_not, Int.not_lt, Int.not_le, gt_iff_lt, ge_iff_le, Bool.or_eq_true, Bool.and_eq_true, Bool.or_eq_false_iff, Bool.not_eq_true', Bool.not_eq_false', Int.toNat_natCast, bne_iff_ne, beq_iff_eq, bne_eq_false_iff_eq, beq_eq_false_iff_ne, ne_eq] at c3
        refine .skip ?_
        refine .blk ?_
        refine .code ?_
        refine Wk.rg [0, 1] rfl rfl ?_
        refine arn (((k + 1) : Nat) : Int) rfl .no (.u rfl) (.u rfl) rfl (fun _ => by omega) (fun _ => wrap_i64 (by omega) (by omega)) ?_
        refine mv rfl .no (.u rfl) ?_
        refine .nil ?_
        refine We.lpo (k + 1, upd f k 54#8, upd f2 k 92#8) ?_ ?_ ?_ ?_ ?_
        · exact (ESub.cons rfl (by first | rfl | exact evi (by omega)) (ESub.cons rfl rfl (ESub.cons rfl rfl (ESub.cons rfl rfl ESub.nil))))
        · exact (MSub.cons .here rfl (MSub.cons .here rfl (MSub.cons .here rfl MSub.nil)))
        · first | omega | (dsimp only; omega)
        · exact hGl0
        · refine ⟨?_, ?_, ?_⟩
          · (try dsimp only) <;> (first | omega | rfl | assumption | (simp; done))
          · (try dsimp only) <;> (exact outs_step1 ef (by rw [padF, ek1, if_neg (by omega)]))
          · (try dsimp only) <;> (exact outs_step1 ef2 (by rw [padF, ek1, if_neg (by omega)]))
    · have c2k := c2
      try simp only [decide_eq_true_eq, decide_eq_false_iff_not, Int.not_lt, Int.not_le, gt_iff_lt, ge_iff_le, Bool.or_eq_true, Bool.and_eq_true, Bool.or_eq_false_iff, Bool.not_eq_true', Bool.not_eq_false', Int.toNat_natCast, bne_iff_ne, beq_iff_eq, bne_eq_false_iff_eq, beq_eq_false_iff_ne, ne_eq] at c2
      refine .exit ?_
      refine .xcode ?_
      refine .xlp ?_
      refine .xblk ?_
      refine .code ?_
      refine .seq ?_
      refine Wk.drawT Fx.mix rfl ?_
      refine WoT.n2 0 1 (by kernel_rfl) ?_ ?_
      · refine lA rfl .no Fx.ag85 (.u rfl) (fun _ => RdN.own (.there .here)) (fun _ => (by first | exact (ba_len _ _).trans (ba_len _ _).symm | exact (wa_len _ _).trans (wa_len _ _).symm | exact ba_len _ _ | exact wa_len _ _ | rfl | (simp only [wa_len, ba_len, List.length_append, List.length_cons, List.length_nil]))) ?_
        refine .nil ?_
        refine WoT.n2 1 2 (by kernel_rfl) ?_ ?_
        · refine lA rfl .no Fx.ag85 (.u rfl) (fun _ => RdN.own .here) (fun _ => (by first | exact (ba_len _ _).trans (ba_len _ _).symm | exact (wa_len _ _).trans (wa_len _ _).symm | exact ba_len _ _ | exact wa_len _ _ | rfl | (simp only [wa_len, ba_len, List.length_append, List.length_cons, List.length_nil]))) ?_
          refine .nil ?_
          refine WoT.n1 2 (by kernel_rfl) ?_
          refine sw rfl (.u rfl) (.u rfl) rfl Fx.sz85 (.there .here) (by first | exact (ba_len _ _).trans (ba_len _ _).symm | exact (wa_len _ _).trans (wa_len _ _).symm | exact ba_len _ _ | exact wa_len _ _ | rfl | (simp only [wa_len, ba_len, List.length_append, List.length_cons, List.length_nil])) (by first | exact ba_one _ _ | exact wa_one _ _ | exact one_V _ | decide | exact one_app (wa_one _ _) (by simp [Value.oneCell'])) ?_
          refine .nil ?_
          refine WoT.n1 3 (by kernel_rfl) ?_
          refine sw rfl (.u rfl) (.u rfl) rfl Fx.sz85 (.there .here) (by first | exact (ba_len _ _).trans (ba_len _ _).symm | exact (wa_len _ _).trans (wa_len _ _).symm | exact ba_len _ _ | exact wa_len _ _ | rfl | (simp only [wa_len, ba_len, List.length_append, List.length_cons, List.length_nil])) (by first | exact ba_one _ _ | exact wa_one _ _ | exact one_V _ | decide | exact one_app (wa_one _ _) (by simp [Value.oneCell'])) ?_
          refine .nil ?_
          refine WoT.last (by kernel_rfl) ?_
          refine .code ?_
          refine .ret ?_
          refine We.fin0 Tryd.results52 (.cell rfl (fun w hw => run_loadVarN Fx.ag85 (RdN.own (.there .here)) ((by first | exact (ba_len _ _).trans (ba_len _ _).symm | exact (wa_len _ _).trans (wa_len _ _).symm | exact ba_len _ _ | exact wa_len _ _ | rfl | (simp only [wa_len, ba_len, List.length_append, List.length_cons, List.length_nil]))) hw) (.cell rfl (fun w hw => run_loadVarN Fx.ag85 (RdN.own .here) ((by first | exact (ba_len _ _).trans (ba_len _ _).symm | exact (wa_len _ _).trans (wa_len _ _).symm | exact ba_len _ _ | exact wa_len _ _ | rfl | (simp only [wa_len, ba_len, List.length_append, List.length_cons, List.length_nil]))) hw) .nil)) ?_
          obtain rfl : k = 64 := by omega
          exact ⟨rfl, by rw [ef, ef2, ba_congr (fun i hi => outs_eq (padF key 54#8) hi), ba_congr (fun i hi => outs_eq (padF key 92#8) hi)]; rfl⟩
        · refine sw rfl (.u rfl) (.u rfl) rfl Fx.sz85 (.there .here) (by first | exact (ba_len _ _).trans (ba_len _ _).symm | exact (wa_len _ _).trans (wa_len _ _).symm | exact ba_len _ _ | exact wa_len _ _ | rfl | (simp only [wa_len, ba_len, List.length_append, List.length_cons, List.length_nil])) (by first | exact ba_one _ _ | exact wa_one _ _ | exact one_V _ | decide | exact one_app (wa_one _ _) (by simp [Value.oneCell'])) ?_
          refine .nil ?_
          refine WoT.n1 1 (by kernel_rfl) ?_
          refine lA rfl .no Fx.ag85 (.u rfl) (fun _ => RdN.own (.there .here)) (fun _ => (by first | exact (ba_len _ _).trans (ba_len _ _).symm | exact (wa_len _ _).trans (wa_len _ _).symm | exact ba_len _ _ | exact wa_len _ _ | rfl | (simp only [wa_len, ba_len, List.length_append, List.length_cons, List.length_nil]))) ?_
          refine .nil ?_
          refine WoT.n1 3 (by kernel_rfl) ?_
          refine sw rfl (.u rfl) (.u rfl) rfl Fx.sz85 (.there .here) (by first | exact (ba_len _ _).trans (ba_len _ _).symm | exact (wa_len _ _).trans (wa_len _ _).symm | exact ba_len _ _ | exact wa_len _ _ | rfl | (simp only [wa_len, ba_len, List.length_append, List.length_cons, List.length_nil])) (by first | exact ba_one _ _ | exact wa_one _ _ | exact one_V _ | decide | exact one_app (wa_one _ _) (by simp [Value.oneCell'])) ?_
          refine .nil ?_
          refine WoT.last (by kernel_rfl) ?_
          refine .code ?_
          refine .ret ?_
          refine We.fin0 Tryd.results52 (.cell rfl (fun w hw => run_loadVarN Fx.ag85 (RdN.own (.there .here)) ((by first | exact (ba_len _ _).trans (ba_len _ _).symm | exact (wa_len _ _).trans (wa_len _ _).symm | exact ba_len _ _ | exact wa_len _ _ | rfl | (simp only [wa_len, ba_len, List.length_append, List.length_cons, List.length_nil]))) hw) (.cell rfl (fun w hw => run_loadVarN Fx.ag85 (RdN.own .here) ((by first | exact (ba_len _ _).trans (ba_len _ _).symm | exact (wa_len _ _).trans (wa_len _ _).symm | exact ba_len _ _ | exact wa_len _ _ | rfl | (simp only [wa_len, ba_len, List.length_append, List.length_cons, List.length_nil]))) hw) .nil)) ?_
          obtain rfl : k = 64 := by omega
          exact ⟨rfl, by rw [ef, ef2, ba_congr (fun i hi => outs_eq (padF key 54#8) hi), ba_congr (fun i hi => outs_eq (padF key 92#8) hi)]; rfl⟩
      · refine lA rfl .no Fx.ag85 (.u rfl) (fun _ => RdN.own .here) (fun _ => (by first | exact (ba_len _ _).trans (ba_len _ _).symm | exact (wa_len _ _).trans (wa_len _ _).symm | exact ba_len _ _ | exact wa_len _ _ | rfl | (simp only [wa_len, ba_len, List.length_append, List.length_cons, List.length_nil]))) ?_
        refine .nil ?_
        refine WoT.n1 0 (by kernel_rfl) ?_
        refine lA rfl .no Fx.ag85 (.u rfl) (fun _ => RdN.own (.there .here)) (fun _ => (by first | exact (ba_len _ _).trans (ba_len _ _).symm | exact (wa_len _ _).trans (wa_len _ _).symm | exact ba_len _ _ | exact wa_len _ _ | rfl | (simp only [wa_len, ba_len, List.length_append, List.length_cons, List.length_nil]))) ?_
        refine .nil ?_
        refine WoT.n1 2 (by kernel_rfl) ?_
        refine sw rfl (.u rfl) (.u rfl) rfl Fx.sz85 (.there .here) (by first | exact (ba_len _ _).trans (ba_len _ _).symm | exact (wa_len _ _).trans (wa_len _ _).symm | exact ba_len _ _ | exact wa_len _ _ | rfl | (simp only [wa_len, ba_len, List.length_append, List.length_cons, List.length_nil])) (by first | exact ba_one _ _ | exact wa_one _ _ | exact one_V _ | decide | exact one_app (wa_one _ _) (by simp [Value.oneCell'])) ?_
        refine .nil ?_
        refine WoT.n1 3 (by kernel_rfl) ?_
        refine sw rfl (.u rfl) (.u rfl) rfl Fx.sz85 (.there .here) (by first | exact (ba_len _ _).trans (ba_len _ _).symm | exact (wa_len _ _).trans (wa_len _ _).symm | exact ba_len _ _ | exact wa_len _ _ | rfl | (simp only [wa_len, ba_len, List.length_append, List.length_cons, List.length_nil])) (by first | exact ba_one _ _ | exact wa_one _ _ | exact one_V _ | decide | exact one_app (wa_one _ _) (by simp [Value.oneCell'])) ?_
        refine .nil ?_
        refine WoT.last (by kernel_rfl) ?_
        refine .code ?_
        refine .ret ?_
        refine We.fin0 Tryd.results52 (.cell rfl (fun w hw => run_loadVarN Fx.ag85 (RdN.own (.there .here)) ((by first | exact (ba_len _ _).trans (ba_len _ _).symm | exact (wa_len _ _).trans (wa_len _ _).symm | exact ba_len _ _ | exact wa_len _ _ | rfl | (simp only [wa_len, ba_len, List.length_append, List.length_cons, List.length_nil]))) hw) (.cell rfl (fun w hw => run_loadVarN Fx.ag85 (RdN.own .here) ((by first | exact (ba_len _ _).trans (ba_len _ _).symm | exact (wa_len _ _).trans (wa_len _ _).symm | exact ba_len _ _ | exact wa_len _ _ | rfl | (simp only [wa_len, ba_len, List.length_append, List.length_cons, List.length_nil]))) hw) .nil)) ?_
        obtain rfl : k = 64 := by omega
        exact ⟨rfl, by rw [ef, ef2, ba_congr (fun i hi => outs_eq (padF key 54#8) hi), ba_congr (fun i hi => outs_eq (padF key 92#8) hi)]; rfl⟩
  · have c1k := c1
    try simp only [decide_eq_true_eq, decide_eq_false_iff_not, Int.not_lt, Int.not_le, gt_iff_lt, ge_iff_le, Bool.or_eq_true, Bool.and_eq_true, Bool.or_eq_false_iff, Bool.not_eq_true', Bool.not_eq_false', Int.toNat_natCast, bne_iff_ne, beq_iff_eq, bne_eq_false_iff_eq, beq_eq_false_iff_ne, ne_eq] at c1
    have ek2 : keyL key = key := by unfold keyL; rw [if_neg (by omega)]
    refine .skip ?_
    refine .code ?_
    refine .seq ?_
    refine .seq ?_
    skip
    refine Wk.rg [0] rfl rfl ?_
    refine mv rfl .no (.u rfl) ?_
    refine .nil ?_
    refine .code ?_
    refine .block ?_
    refine Wk.lop (α := Nat × (Nat → Y) × (Nat → Y)) (fun gh => [(13, true, .int .i64 (gh.1 : Int))]) (fun gh => [.blk b3 (cl (ba 64 gh.2.2) 85), .blk b2 (cl (ba 64 gh.2.1) 85)])
      (fun gh Gl => (gh.1 ≤ 64) ∧ (gh.2.1 = outs (padF key 54#8) gh.1) ∧ (gh.2.2 = outs (padF key 92#8) gh.1)) (fun gh => 64 - gh.1) (0, fun _ => 0#8, fun _ => 0#8) [(0, true, _), (2, true, _), (3, true, _)] []
      (ESub.cons rfl (by first | rfl | exact evi (by omega)) (ESub.cons rfl rfl (ESub.cons rfl rfl (ESub.cons rfl rfl ESub.nil))))
      (MSub.cons .here rfl (MSub.cons .here rfl MSub.nil)) ?_ ?_
    · refine ⟨?_, ?_, ?_⟩
      · (try dsimp only) <;> (first | omega | rfl | assumption | (simp; done))
      · (try dsimp only) <;> (first | omega | rfl | assumption | (simp; done))
      · (try dsimp only) <;> (first | omega | rfl | assumption | (simp; done))
    intro gh N1 Gl1 hN1 hGl1 hF1
    obtain ⟨k, f, f2⟩ := gh; dsimp only at hF1 hN1 ⊢
    obtain ⟨hk, ef, ef2⟩ := hF1
    have hs := hs.mono hGl1
    have hK := hK.mono hGl1
    refine .seq ?_
    refine Wk.rg [0] rfl rfl ?_
    refine cp rfl .no (.u rfl) (.u rfl) rfl ?_
    refine .nil ?_
    refine .code ?_
    refine .seq ?_
    refine .cond rfl (fun c4 => ?_) (fun c4 => ?_)
    · have c4k := c4
      try simp only [decide_eq_true_eq, decide_eq_false_iff_not, Int.not_lt, Int.not_le, gt_iff_lt, ge_iff_le, Bool.or_eq_true, Bool.and_eq_true, Bool.or_eq_false_iff, Bool.not_eq_true', Bool.not_eq_false', Int.toNat_natCast, bne_iff_ne, beq_iff_eq, bne_eq_false_iff_eq, beq_eq_false_iff_ne, ne_eq] at c4
      refine .skip ?_
      refine .code ?_
      refine .seq ?_
      refine .block ?_
      refine .seq ?_
      refine Wk.rg [0, 1] rfl rfl ?_
      refine mv rfl .no (.u rfl) ?_
      refine asg rfl .no (.u rfl) ?_
      refine .nil ?_
      refine .code ?_
      refine .seq ?_
      refine Wk.rg [0, 1, 2, 3, 4, 5] rfl rfl ?_
      refine mv rfl .no (.u rfl) ?_
      refine mv rfl .no (.u rfl) ?_
      refine iA rfl .no Fx.ar85 (.u rfl) (.u rfl) (fun _ => by omega) (fun _ => by omega) ?_
      refine s1 rfl (.u rfl) (.u rfl) rfl Fx.sz5 (.there .here) (by first | decide | (simp only [wa_len, ba_len, List.length_append, List.length_cons, List.length_nil]; omega)) (by first | exact ba_set1 (z := 54#8) (k) (by omega) | exact wa_set1 (z := 54#32) (k) (by omega) | rfl) ?_
      refine iA rfl .no Fx.ar85 (.u rfl) (.u rfl) (fun _ => by omega) (fun _ => by omega) ?_
      refine s1 rfl (.u rfl) (.u rfl) rfl Fx.sz5 (.there .here) (by first | decide | (simp only [wa_len, ba_len, List.length_append, List.length_cons, List.length_nil]; omega)) (by first | exact ba_set1 (z := 92#8) (k) (by omega) | exact wa_set1 (z := 92#32) (k) (by omega) | rfl) ?_
      refine .nil ?_
      refine .code ?_
      refine .seq ?_
      refine Wk.rg [0, 1, 2, 3] rfl rfl ?_
      refine mv rfl .no (.u rfl) ?_
      refine mv rfl .no (.u rfl) ?_
      refine ln rfl .no Fx.sn27 (.u rfl) ?_
      refine cp rfl .no (.u rfl) (.u rfl) rfl ?_
      refine .nil ?_
      refine .code ?_
      refine .cond rfl (fun c5 => ?_) (fun c5 => ?_)
      · have c5k := c5
        try simp only [decide_eq_true_eq, decide_eq_false_iff_not, Int.not_lt, Int.not_le, gt_iff_lt, ge_iff_le, Bool.or_eq_true, Bool.and_eq_true, Bool.or_eq_false_iff, Bool.not_eq_true', Bool.not_eq_false', Int.toNat_natCast, bne_iff_ne, beq_iff_eq, bne_eq_false_iff_eq, beq_eq_false_iff_ne, ne_eq] at c5
        refine .seq ?_
        refine Wk.draw (mc := ⟨false, false⟩) [0, 1, 2, 3, 4, 5, 6, 7, 8, 9] Fx.mix (by kernel_rfl) ?_
        refine mv rfl .no (.u rfl) ?_
        refine iA rfl .no Fx.ar85 (.u rfl) (.u rfl) (fun _ => by omega) (fun _ => by omega) ?_
        refine ld rfl .no Fx.ag5 (.u rfl) (fun _ => Rd.own (.there .here) (by first | exact wa_at1 (k) (by omega) (by omega) | exact ba_at1 (k) (by omega) (by omega) | exact wap_at1 (k) (by omega) (by omega) | rfl)) ?_
        refine mv rfl .no (.u rfl) ?_
        refine mv rfl .no (.u rfl) ?_
        refine ih rfl .no Fx.se27 (.u rfl) (.u rfl) (fun _ => by omega) (fun _ => by omega) (fun _ => hs.nn (k := k) (by omega)) ?_
        refine ld rfl .no Fx.ag5 (.u rfl) (fun _ => (hs.yat (k) (by omega) (by omega)).rd) ?_
        refine bw (k := .u8) rfl .no rfl (.u rfl) (.u rfl) rfl ?_
        refine iA rfl .no Fx.ar85 (.u rfl) (.u rfl) (fun _ => by omega) (fun _ => by omega) ?_
        refine s1 rfl (.u rfl) (.u rfl) rfl Fx.sz5 (.there .here) (by first | decide | (simp only [wa_len, ba_len, List.length_append, List.length_cons, List.length_nil]; omega)) (by first | exact wa_set1 (k) (by omega) | exact ba_set1 (k) (by omega) | exact wap_set1 (k) (by omega) (by omega) | rfl) ?_
        refine .nil ?_
        refine .code ?_
        refine Wk.draw (mc := ⟨false, false⟩) [0, 1, 2, 3, 4, 5, 6, 7, 8, 9] Fx.mix (by kernel_rfl) ?_
        refine mv rfl .no (.u rfl) ?_
        refine iA rfl .no Fx.ar85 (.u rfl) (.u rfl) (fun _ => by omega) (fun _ => by omega) ?_
        refine ld rfl .no Fx.ag5 (.u rfl) (fun _ => Rd.own (.there .here) (by first | exact wa_at1 (k) (by omega) (by omega) | exact ba_at1 (k) (by omega) (by omega) | exact wap_at1 (k) (by omega) (by omega) | rfl)) ?_
        refine mv rfl .no (.u rfl) ?_
        refine mv rfl .no (.u rfl) ?_
        refine ih rfl .no Fx.se27 (.u rfl) (.u rfl) (fun _ => by omega) (fun _ => by omega) (fun _ => hs.nn (k := k) (by omega)) ?_
        refine ld rfl .no Fx.ag5 (.u rfl) (fun _ => (hs.yat (k) (by omega) (by omega)).rd) ?_
        refine bw (k := .u8) rfl .no rfl (.u rfl) (.u rfl) rfl ?_
        refine iA rfl .no Fx.ar85 (.u rfl) (.u rfl) (fun _ => by omega) (fun _ => by omega) ?_
        refine s1 rfl (.u rfl) (.u rfl) rfl Fx.sz5 (.there .here) (by first | decide | (simp only [wa_len, ba_len, List.length_append, List.length_cons, List.length_nil]; omega)) (by first | exact wa_set1 (k) (by omega) | exact ba_set1 (k) (by omega) | exact wap_set1 (k) (by omega) (by omega) | rfl) ?_
        refine .nil ?_
        refine .blk ?_
        refine .code ?_
        refine Wk.rg [0, 1] rfl rfl ?_
        refine arn (((k + 1) : Nat) : Int) rfl .no (.u rfl) (.u rfl) rfl (fun _ => by omega) (fun _ => wrap_i64 (by omega) (by omega)) ?_
        refine mv rfl .no (.u rfl) ?_
        refine .nil ?_
        refine We.lpo (k + 1, upd (upd f k 54#8) k (upd f k 54#8 k ^^^ key.getD k 0), upd (upd f2 k 92#8) k (upd f2 k 92#8 k ^^^ key.getD k 0)) ?_ ?_ ?_ ?_ ?_
        · exact (ESub.cons rfl (by first | rfl | exact evi (by omega)) (ESub.cons rfl rfl (ESub.cons rfl rfl (ESub.cons rfl rfl ESub.nil))))
        · exact (MSub.cons .here rfl (MSub.cons .here rfl MSub.nil))
        · first | omega | (dsimp only; omega)
        · exact hGl1
        · refine ⟨?_, ?_, ?_⟩
          · (try dsimp only) <;> (first | omega | rfl | assumption | (simp; done))
          · (try dsimp only) <;> (exact outs_step2 ef (by rw [upd_at, padF, ek2, if_pos (by omega)]))
          · (try dsimp only) <;> (exact outs_step2 ef2 (by rw [upd_at, padF, ek2, if_pos (by omega)]))
      · have c5k := c5
        try simp only [decide_eq_true_eq, decide_eq_false_iff_not, Int.not_lt, Int.not_le, gt_iff_lt, ge_iff_le, Bool.or_eq_true, Bool.and_eq_true, Bool.or_eq_false_iff, Bool.not_eq_true', Bool.not_eq_false', Int.toNat_natCast, bne_iff_ne, beq_iff_eq, bne_eq_false_iff_eq, beq_eq_false_iff_ne, ne_eq] at c5
        refine .skip ?_
        refine .blk ?_
        refine .code ?_
        refine Wk.rg [0, 1] rfl rfl ?_
        refine arn (((k + 1) : Nat) : Int) rfl .no (.u rfl) (.u rfl) rfl (fun _ => by omega) (fun _ => wrap_i64 (by omega) (by omega)) ?_
        refine mv rfl .no (.u rfl) ?_
        refine .nil ?_
        refine We.lpo (k + 1, upd f k 54#8, upd f2 k 92#8) ?_ ?_ ?_ ?_ ?_
        · exact (ESub.cons rfl (by first | rfl | exact evi (by omega)) (ESub.cons rfl rfl (ESub.cons rfl rfl (ESub.cons rfl rfl ESub.nil))))
        · exact (MSub.cons .here rfl (MSub.cons .here rfl MSub.nil))
        · first | omega | (dsimp only; omega)
        · exact hGl1
        · refine ⟨?_, ?_, ?_⟩
          · (try dsimp only) <;> (first | omega | rfl | assumption | (simp; done))
          · (try dsimp only) <;> (exact outs_step1 ef (by rw [padF, ek2, if_neg (by omega)]))
          · (try dsimp only) <;> (exact outs_step1 ef2 (by rw [padF, ek2, if_neg (by omega)]))
    · have c4k := c4
      try simp only [decide_eq_true_eq, decide_eq_false_iff_not, Int.not_lt, Int.not_le, gt_iff_lt, ge_iff_le, Bool.or_eq_true, Bool.and_eq_true, Bool.or_eq_false_iff, Bool.not_eq_true', Bool.not_eq_false', Int.toNat_natCast, bne_iff_ne, beq_iff_eq, bne_eq_false_iff_eq, beq_eq_false_iff_ne, ne_eq] at c4
      refine .exit ?_
      refine .xcode ?_
      refine .xlp ?_
      refine .xblk ?_
      refine .code ?_
      refine .seq ?_
      refine Wk.drawT Fx.mix rfl ?_
      refine WoT.n2 0 1 (by kernel_rfl) ?_ ?_
      · refine lA rfl .no Fx.ag85 (.u rfl) (fun _ => RdN.own (.there .here)) (fun _ => (by first | exact (ba_len _ _).trans (ba_len _ _).symm | exact (wa_len _ _).trans (wa_len _ _).symm | exact ba_len _ _ | exact wa_len _ _ | rfl | (simp only [wa_len, ba_len, List.length_append, List.length_cons, List.length_nil]))) ?_
        refine .nil ?_
        refine WoT.n2 1 2 (by kernel_rfl) ?_ ?_
        · refine lA rfl .no Fx.ag85 (.u rfl) (fun _ => RdN.own .here) (fun _ => (by first | exact (ba_len _ _).trans (ba_len _ _).symm | exact (wa_len _ _).trans (wa_len _ _).symm | exact ba_len _ _ | exact wa_len _ _ | rfl | (simp only [wa_len, ba_len, List.length_append, List.length_cons, List.length_nil]))) ?_
          refine .nil ?_
          refine WoT.n1 2 (by kernel_rfl) ?_
          refine sw rfl (.u rfl) (.u rfl) rfl Fx.sz85 (.there .here) (by first | exact (ba_len _ _).trans (ba_len _ _).symm | exact (wa_len _ _).trans (wa_len _ _).symm | exact ba_len _ _ | exact wa_len _ _ | rfl | (simp only [wa_len, ba_len, List.length_append, List.length_cons, List.length_nil])) (by first | exact ba_one _ _ | exact wa_one _ _ | exact one_V _ | decide | exact one_app (wa_one _ _) (by simp [Value.oneCell'])) ?_
          refine .nil ?_
          refine WoT.n1 3 (by kernel_rfl) ?_
          refine sw rfl (.u rfl) (.u rfl) rfl Fx.sz85 (.there .here) (by first | exact (ba_len _ _).trans (ba_len _ _).symm | exact (wa_len _ _).trans (wa_len _ _).symm | exact ba_len _ _ | exact wa_len _ _ | rfl | (simp only [wa_len, ba_len, List.length_append, List.length_cons, List.length_nil])) (by first | exact ba_one _ _ | exact wa_one _ _ | exact one_V _ | decide | exact one_app (wa_one _ _) (by simp [Value.oneCell'])) ?_
          refine .nil ?_
          refine WoT.last (by kernel_rfl) ?_
          refine .code ?_
          refine .ret ?_
          refine We.fin0 Tryd.results52 (.cell rfl (fun w hw => run_loadVarN Fx.ag85 (RdN.own (.there .here)) ((by first | exact (ba_len _ _).trans (ba_len _ _).symm | exact (wa_len _ _).trans (wa_len _ _).symm | exact ba_len _ _ | exact wa_len _ _ | rfl | (simp only [wa_len, ba_len, List.length_append, List.length_cons, List.length_nil]))) hw) (.cell rfl (fun w hw => run_loadVarN Fx.ag85 (RdN.own .here) ((by first | exact (ba_len _ _).trans (ba_len _ _).symm | exact (wa_len _ _).trans (wa_len _ _).symm | exact ba_len _ _ | exact wa_len _ _ | rfl | (simp only [wa_len, ba_len, List.length_append, List.length_cons, List.length_nil]))) hw) .nil)) ?_
          obtain rfl : k = 64 := by omega
          exact ⟨rfl, by rw [ef, ef2, ba_congr (fun i hi => outs_eq (padF key 54#8) hi), ba_congr (fun i hi => outs_eq (padF key 92#8) hi)]; rfl⟩
        · refine sw rfl (.u rfl) (.u rfl) rfl Fx.sz85 (.there .here) (by first | exact (ba_len _ _).trans (ba_len _ _).symm | exact (wa_len _ _).trans (wa_len _ _).symm | exact ba_len _ _ | exact wa_len _ _ | rfl | (simp only [wa_len, ba_len, List.length_append, List.length_cons, List.length_nil])) (by first | exact ba_one _ _ | exact wa_one _ _ | exact one_V _ | decide | exact one_app (wa_one _ _) (by simp [Value.oneCell'])) ?_
          refine .nil ?_
          refine WoT.n1 1 (by kernel_rfl) ?_
          refine lA rfl .no Fx.ag85 (.u rfl) (fun _ => RdN.own (.there .here)) (fun _ => (by first | exact (ba_len _ _).trans (ba_len _ _).symm | exact (wa_len _ _).trans (wa_len _ _).symm | exact ba_len _ _ | exact wa_len _ _ | rfl | (simp only [wa_len, ba_len, List.length_append, List.length_cons, List.length_nil]))) ?_
          refine .nil ?_
          refine WoT.n1 3 (by kernel_rfl) ?_
          refine sw rfl (.u rfl) (.u rfl) rfl Fx.sz85 (.there .here) (by first | exact (ba_len _ _).trans (ba_len _ _).symm | exact (wa_len _ _).trans (wa_len _ _).symm | exact ba_len _ _ | exact wa_len _ _ | rfl | (simp only [wa_len, ba_len, List.length_append, List.length_cons, List.length_nil])) (by first | exact ba_one _ _ | exact wa_one _ _ | exact one_V _ | decide | exact one_app (wa_one _ _) (by simp [Value.oneCell'])) ?_
          refine .nil ?_
          refine WoT.last (by kernel_rfl) ?_
          refine .code ?_
          refine .ret ?_
          refine We.fin0 Tryd.results52 (.cell rfl (fun w hw => run_loadVarN Fx.ag85 (RdN.own (.there .here)) ((by first | exact (ba_len _ _).trans (ba_len _ _).symm | exact (wa_len _ _).trans (wa_len _ _).symm | exact ba_len _ _ | exact wa_len _ _ | rfl | (simp only [wa_len, ba_len, List.length_append, List.length_cons, List.length_nil]))) hw) (.cell rfl (fun w hw => run_loadVarN Fx.ag85 (RdN.own .here) ((by first | exact (ba_len _ _).trans (ba_len _ _).symm | exact (wa_len _ _).trans (wa_len _ _).symm | exact ba_len _ _ | exact wa_len _ _ | rfl | (simp only [wa_len, ba_len, List.length_append, List.length_cons, List.length_nil]))) hw) .nil)) ?_
          obtain rfl : k = 64 := by omega
          exact ⟨rfl, by rw [ef, ef2, ba_congr (fun i hi => outs_eq (padF key 54#8) hi), ba_congr (fun i hi => outs_eq (padF key 92#8) hi)]; rfl⟩
      · refine lA rfl .no Fx.ag85 (.u rfl) (fun _ => RdN.own .here) (fun _ => (by first | exact (ba_len _ _).trans (ba_len _ _).symm | exact (wa_len _ _).trans (wa_len _ _).symm | exact ba_len _ _ | exact wa_len _ _ | rfl | (simp only [wa_len, ba_len, List.length_append, List.length_cons, List.length_nil]))) ?_
        refine .nil ?_
        refine WoT.n1 0 (by kernel_rfl) ?_
        refine lA rfl .no Fx.ag85 (.u rfl) (fun _ => RdN.own (.there .here)) (fun _ => (by first | exact (ba_len _ _).trans (ba_len _ _).symm | exact (wa_len _ _).trans (wa_len _ _).symm | exact ba_len _ _ | exact wa_len _ _ | rfl | (simp only [wa_len, ba_len, List.length_append, List.length_cons, List.length_nil]))) ?_
        refine .nil ?_
        refine WoT.n1 2 (by kernel_rfl) ?_
        refine sw rfl (.u rfl) (.u rfl) rfl Fx.sz85 (.there .here) (by first | exact (ba_len _ _).trans (ba_len _ _).symm | exact (wa_len _ _).trans (wa_len _ _).symm | exact ba_len _ _ | exact wa_len _ _ | rfl | (simp only [wa_len, ba_len, List.length_append, List.length_cons, List.length_nil])) (by first | exact ba_one _ _ | exact wa_one _ _ | exact one_V _ | decide | exact one_app (wa_one _ _) (by simp [Value.oneCell'])) ?_
        refine .nil ?_
        refine WoT.n1 3 (by kernel_rfl) ?_
        refine sw rfl (.u rfl) (.u rfl) rfl Fx.sz85 (.there .here) (by first | exact (ba_len _ _).trans (ba_len _ _).symm | exact (wa_len _ _).trans (wa_len _ _).symm | exact ba_len _ _ | exact wa_len _ _ | rfl | (simp only [wa_len, ba_len, List.length_append, List.length_cons, List.length_nil])) (by first | exact ba_one _ _ | exact wa_one _ _ | exact one_V _ | decide | exact one_app (wa_one _ _) (by simp [Value.oneCell'])) ?_
        refine .nil ?_
        refine WoT.last (by kernel_rfl) ?_
        refine .code ?_
        refine .ret ?_
        refine We.fin0 Tryd.results52 (.cell rfl (fun w hw => run_loadVarN Fx.ag85 (RdN.own (.there .here)) ((by first | exact (ba_len _ _).trans (ba_len _ _).symm | exact (wa_len _ _).trans (wa_len _ _).symm | exact ba_len _ _ | exact wa_len _ _ | rfl | (simp only [wa_len, ba_len, List.length_append, List.length_cons, List.length_nil]))) hw) (.cell rfl (fun w hw => run_loadVarN Fx.ag85 (RdN.own .here) ((by first | exact (ba_len _ _).trans (ba_len _ _).symm | exact (wa_len _ _).trans (wa_len _ _).symm | exact ba_len _ _ | exact wa_len _ _ | rfl | (simp only [wa_len, ba_len, List.length_append, List.length_cons, List.length_nil]))) hw) .nil)) ?_
        obtain rfl : k = 64 := by omega
        exact ⟨rfl, by rw [ef, ef2, ba_congr (fun i hi => outs_eq (padF key 54#8) hi), ba_congr (fun i hi => outs_eq (padF key 92#8) hi)]; rfl⟩

end Go.Proofs.YtoogjfldgeiapaaDoor
