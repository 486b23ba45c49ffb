/- Contracts of functions, walked. -/
import Derived.Test.YtoogjfldgeiapaaDoorWalZ
import Derived.Test.YtoogjfldgeiapaaDoorWalF
namespace Go.Proofs.YtoogjfldgeiapaaDoor
set_option linter.unusedSimpArgs false
set_option linter.unusedVariables false
open Go.Tan Go.RowKit

namespace FxWalG
theorem fo47_1 : fOff Tryd.prog 47 1 = some 32 := by kernel_rfl
theorem fo47_0 : fOff Tryd.prog 47 0 = some 0 := by kernel_rfl
end FxWalG
namespace Fx
theorem se57 : slE Tryd.prog 57 = some (3, 1, 8) := by kernel_rfl
theorem zv3 : (Tryd.prog.info? 3).bind (·.zero) = some (.int .i64 0) := by kernel_rfl
theorem fo52_0 : fOff Tryd.prog 52 0 = some 0 := by kernel_rfl
theorem eqt45 : eqT Tryd.prog 4 45 ([.int .u8, .int .u8, .int .u64, .int .u64, .int .u64]) = true := by kernel_rfl
end Fx
theorem few16_ok (ps : List (Sh × List Y)) (h : Sh) (G : PM) (hs : SlP G h ps) (hl : ps.length ≤ 1000000000000000) : Ct Tryd.prog 29 ([h.val ps.length] : List Value).toArray G [] (fun _ μ' u => μ' = [] ∧ u = h.val (fewL ps).length) := by
  refine Ct.of Tryd.func29 rfl Tryd.ntmps29 rfl fun w0 hs0 => ?_
  refine .seq ?_
  refine Wk.rg [0] rfl rfl ?_
  refine asg rfl .no (.u rfl) ?_
  refine .nil ?_
  refine .code ?_
  refine .seq ?_
  refine Wk.rg [0] rfl rfl ?_
  refine asg rfl .no (.u rfl) ?_
  refine .nil ?_
  refine .code ?_
  refine .seq ?_
  refine .seq ?_
  refine Wk.rg [0, 1, 2] rfl rfl ?_
  refine mv rfl .no (.u rfl) ?_
  refine ln rfl .no Fx.sn50 (.u rfl) ?_
  refine mv rfl .no (.u rfl) ?_
  refine .nil ?_
  refine .code ?_
  refine .block ?_
  refine Wk.lop (α := Nat × Nat) (fun gh => [(3, true, .int .i64 (gh.2 : Int)), (7, true, .int .i64 (gh.1 : Int))]) (fun _ => [])
    (fun gh Gl => (gh.1 ≤ ps.length) ∧ (fewN 20000 0 (ps.map (·.2)) = gh.1 + fewN gh.2 gh.1 ((ps.map (·.2)).drop gh.1)) ∧ (gh.2 ≤ 20000)) (fun gh => ps.length - gh.1) (0, 20000) [(0, true, _), (6, true, _)] []
    (ESub.cons rfl (by first | rfl | exact evi (by omega)) (ESub.cons rfl (by first | rfl | exact evi (by omega)) (ESub.cons rfl rfl (ESub.cons rfl rfl ESub.nil))))
    MSub.nil ?_ ?_
  · refine ⟨?_, ?_, ?_⟩
    · (try dsimp only) <;> (first | omega | rfl | assumption | (simp; done))
    · (try dsimp only) <;> (simp)
    · (try dsimp only) <;> (first | omega | rfl | assumption | (simp; done))
  intro gh N0 Gl0 hN0 hGl0 hF0
  obtain ⟨k, left⟩ := gh; dsimp only at hF0 hN0 ⊢
  obtain ⟨hk, e, hf⟩ := hF0
  have hs := hs.mono hGl0
  refine .seq ?_
  refine Wk.rg [0] rfl rfl ?_
  refine cp rfl .no (.u rfl) (.u rfl) rfl ?_
  refine .nil ?_
  refine .code ?_
  refine .seq ?_
  refine .cond rfl (fun c1 => ?_) (fun c1 => ?_)
  · have c1k := c1
    try simp only [decide_eq_true_eq, decide_eq_false_iff_not, Int.not_lt, Int.not_le, gt_iff_lt, ge_iff_le, Bool.or_eq_true, Bool.and_eq_true, Bool.or_eq_false_iff, Bool.and_eq_false_iff, Bool.not_eq_true', Bool.not_eq_false', Int.toNat_natCast, bne_iff_ne, beq_iff_eq, bne_eq_false_iff_eq, beq_eq_false_iff_ne, ne_eq] at c1
    refine .skip ?_
    refine .code ?_
    refine .seq ?_
    refine .block ?_
    refine .seq ?_
    refine Wk.rg [0, 1] rfl rfl ?_
    refine mv rfl .no (.u rfl) ?_
    refine asg rfl .no (.u rfl) ?_
    refine .nil ?_
    refine .code ?_
    refine .seq ?_
    refine .seq ?_
    refine Wk.rg [0, 1, 2, 3, 4, 5, 6, 7, 8, 9, 10] rfl rfl ?_
    refine mv rfl .no (.u rfl) ?_
    refine cp rfl .no (.u rfl) (.u rfl) rfl ?_
    refine mv rfl .no (.u rfl) ?_
    refine mv rfl (.f rfl rfl) (.u rfl) ?_
    refine mv rfl (.f rfl rfl) (.u rfl) ?_
    refine ih rfl (.f rfl rfl) Fx.se50 (.s rfl) (.s rfl) (fun hc => by omega) (fun hc => by omega) (fun hc => hs.sl.nn (k := k) (by omega)) ?_
    obtain ⟨p16, ep16⟩ := getx (k := k) (xs := ps) (by omega)
    have hq16 := hs.get ep16
    refine ld rfl (.f rfl rfl) Fx.ag27 (.s rfl) (fun hc => (hs.at (k) (by omega) ep16).rd) ?_
    refine ln rfl (.f rfl rfl) Fx.sn27 (.s rfl) ?_
    refine mv rfl (.f rfl rfl) (.u rfl) ?_
    refine cp rfl (.f rfl rfl) (.s rfl) (.s rfl) rfl ?_
    refine pkO rfl .no (.u rfl) (.s rfl) ?_
    refine .nil ?_
    refine .code ?_
    refine .cond rfl (fun c2 => ?_) (fun c2 => ?_)
    · have c2k := c2
      try simp only [decide_eq_true_eq, decide_eq_false_iff_not, Int.not_lt, Int.not_le, gt_iff_lt, ge_iff_le, Bool.or_eq_true, Bool.and_eq_true, Bool.or_eq_false_iff, Bool.and_eq_false_iff, Bool.not_eq_true', Bool.not_eq_false', Int.toNat_natCast, bne_iff_ne, beq_iff_eq, bne_eq_false_iff_eq, beq_eq_false_iff_ne, ne_eq] at c2
      refine .seq ?_
      refine Wk.rg [0, 1, 2, 3] rfl rfl ?_
      refine mv rfl .no (.u rfl) ?_
      refine mv rfl .no (.u rfl) ?_
      refine se rfl .no Fx.se50 (.u rfl) (.u rfl) (fun _ => by omega) (fun _ => by have := hs.sl.le; omega) ?_
      refine asg rfl .no (.u rfl) ?_
      refine .nil ?_
      refine .code ?_
      refine .ret ?_
      refine We.fin0 Tryd.results29 (.tmp rfl .nil) ?_
      refine ⟨rfl, ?_⟩
      rw [few_stop e ep16 (by omega), List.length_take, Nat.min_eq_left (by omega)]; rfl
    · have c2k := c2
      try simp only [decide_eq_true_eq, decide_eq_false_iff_not, Int.not_lt, Int.not_le, gt_iff_lt, ge_iff_le, Bool.or_eq_true, Bool.and_eq_true, Bool.or_eq_false_iff, Bool.and_eq_false_iff, Bool.not_eq_true', Bool.not_eq_false', Int.toNat_natCast, bne_iff_ne, beq_iff_eq, bne_eq_false_iff_eq, beq_eq_false_iff_ne, ne_eq] at c2
      refine .skip ?_
      refine .code ?_
      refine Wk.rg [0, 1, 2, 3, 4, 5, 6, 7] rfl rfl ?_
      refine mv rfl .no (.u rfl) ?_
      refine mv rfl .no (.u rfl) ?_
      refine mv rfl .no (.u rfl) ?_
      refine ih rfl .no Fx.se50 (.u rfl) (.u rfl) (fun _ => by omega) (fun _ => by omega) (fun _ => hs.sl.nn (k := k) (by omega)) ?_
      obtain ⟨p28, ep28⟩ := getx (k := k) (xs := ps) (by omega)
      have hq28 := hs.get ep28
      refine ld rfl .no Fx.ag27 (.u rfl) (fun _ => (hs.at (k) (by omega) ep28).rd) ?_
      refine ln rfl .no Fx.sn27 (.u rfl) ?_
      refine arn (((left - p28.2.length) : Nat) : Int) rfl .no (.u rfl) (.u rfl) rfl (fun _ => by obtain rfl := Option.some.inj (ep28.symm.trans ep16); omega) (fun _ => wrap_i64 (by omega) (by omega)) ?_
      refine asg rfl .no (.u rfl) ?_
      refine .nil ?_
      refine .blk ?_
      refine .code ?_
      refine Wk.rg [0, 1] rfl rfl ?_
      refine arn (((k + 1) : Nat) : Int) rfl .no (.u rfl) (.u rfl) rfl (fun _ => by omega) (fun _ => wrap_i64 (by omega) (by omega)) ?_
      refine mv rfl .no (.u rfl) ?_
      refine .nil ?_
      refine We.lpo (k + 1, left - p28.2.length) ?_ ?_ ?_ ?_ ?_
      · exact (ESub.cons rfl (by first | rfl | exact evi (by omega)) (ESub.cons rfl (by first | rfl | exact evi (by omega)) (ESub.cons rfl rfl (ESub.cons rfl rfl ESub.nil))))
      · exact MSub.nil
      · first | omega | (dsimp only; omega)
      · exact hGl0
      · refine ⟨?_, ?_, ?_⟩
        · (try dsimp only) <;> (first | omega | rfl | assumption | (simp; done))
        · (try dsimp only) <;> (exact few_go e ep28 (by obtain rfl := Option.some.inj (ep28.symm.trans ep16); omega))
        · (try dsimp only) <;> (first | omega | rfl | assumption | (simp; done))
  · have c1k := c1
    try simp only [decide_eq_true_eq, decide_eq_false_iff_not, Int.not_lt, Int.not_le, gt_iff_lt, ge_iff_le, Bool.or_eq_true, Bool.and_eq_true, Bool.or_eq_false_iff, Bool.and_eq_false_iff, Bool.not_eq_true', Bool.not_eq_false', Int.toNat_natCast, bne_iff_ne, beq_iff_eq, bne_eq_false_iff_eq, beq_eq_false_iff_ne, ne_eq] at c1
    refine .exit ?_
    refine .xcode ?_
    refine .xlp ?_
    refine .xblk ?_
    refine .code ?_
    refine .seq ?_
    refine Wk.rg [0, 1] rfl rfl ?_
    refine mv rfl .no (.u rfl) ?_
    refine asg rfl .no (.u rfl) ?_
    refine .nil ?_
    refine .code ?_
    refine .ret ?_
    refine We.fin0 Tryd.results29 (.tmp rfl .nil) ?_
    refine ⟨rfl, ?_⟩
    rw [few_all e (by omega)]; rfl

theorem laid16_ok (root : Nat → Y) (h : Hd) (ps : List (Sh × List Y)) (hl : Sh) (G : PM) (hs : SlP G hl ps) (hK : RdNP G 1 0 (wa 64 kW)) (hn : ps.length ≤ 41) (hb : ∀ p ∈ ps, p.2.length ≤ 20000) : Ct Tryd.prog 28 ([.agg (ba 32 root ++ [V h.kind, V h.level, uv .u64 h.gen, uv .u64 h.epoch, uv .u64 h.num]).toArray, hl.val ps.length] : List Value).toArray G [] (fun _ μ' u => ∃ v B ve es, B = logL root h (ps.map (·.2)) ∧ es = endsL root h (ps.map (·.2)) ps.length ∧ μ' = [rB v 5 B, rS 1 encN ve 3 es] ∧ u = .tuple #[v, ve, .bool true]) := by
  refine Ct.of Tryd.func28 rfl Tryd.ntmps28 rfl fun w0 hs0 => ?_
  refine .seq ?_
  refine Wk.rg [0, 1, 2, 3] rfl rfl ?_
  refine bx rfl (.u rfl) rfl ?_; intro b2
  refine asg rfl .no (.u rfl) ?_
  refine asg rfl .no (.u rfl) ?_
  refine asg rfl .no (.u rfl) ?_
  refine .nil ?_
  refine .code ?_
  refine .seq ?_
  refine Wk.rg [0, 1, 2, 3] rfl rfl ?_
  refine fz rfl .no FxWalG.fo47_1 (.u rfl) ?_
  refine lA rfl .no Fx.ag45 (.u rfl) (fun _ => RdN.part (n := 5) (cs' := [V h.kind, V h.level, uv .u64 h.gen, uv .u64 h.epoch, uv .u64 h.num]) .here (of_r rfl)) (fun _ => (by first | exact (ba_len _ _).trans (ba_len _ _).symm | exact (wa_len _ _).trans (wa_len _ _).symm | exact ba_len _ _ | exact wa_len _ _ | rfl | (simp only [wa_len, ba_len, List.length_append, List.length_cons, List.length_nil]))) ?_
  refine kc rfl Fx.go40 (Eva.cons (.u rfl) Eva.nil) (Ct.rowc (nLay_ok h _)) ?_
  rintro v14 G14 μ14 hG14 ⟨L14, ov14, eL14, rfl⟩
  have hs := hs.mono hG14
  have hK := hK.mono hG14
  refine asg rfl .no (.u rfl) ?_
  refine .nil ?_
  refine .code ?_
  refine .seq ?_
  refine wk_nilS 1 encN 3 ?_
  refine Wk.rg [0] rfl rfl ?_
  refine asg rfl .no (.u rfl) ?_
  refine .nil ?_
  refine .code ?_
  refine .seq ?_
  refine .seq ?_
  refine Wk.rg [0, 1, 2] rfl rfl ?_
  refine mv rfl .no (.u rfl) ?_
  refine ln rfl .no Fx.sn50 (.u rfl) ?_
  refine mv rfl .no (.u rfl) ?_
  refine .nil ?_
  refine .code ?_
  refine .block ?_
  refine Wk.lop (α := Nat × Value × List Y × Value × List Nat) (fun gh => [(7, true, gh.2.1), (8, true, gh.2.2.2.1), (17, true, .int .i64 (gh.1 : Int))]) (fun gh => [rS 1 encN gh.2.2.2.1 3 gh.2.2.2.2, rB gh.2.1 5 gh.2.2.1])
    (fun gh Gl => (gh.1 ≤ ps.length) ∧ (gh.2.2.1 = logL root h ((ps.map (·.2)).take gh.1)) ∧ (gh.2.2.2.2 = endsL root h (ps.map (·.2)) gh.1) ∧ (gh.2.2.1.length ≤ 30 + 30000 * gh.1)) (fun gh => ps.length - gh.1) (0, v14, L14, .slice none 0 0, []) [(1, true, _), (2, true, _), (16, true, _)] [_]
    (ESub.cons rfl rfl (ESub.cons rfl rfl (ESub.cons rfl (by first | rfl | exact evi (by omega)) (ESub.cons rfl rfl (ESub.cons rfl rfl (ESub.cons rfl rfl ESub.nil))))))
    (MSub.cons .here rfl (MSub.cons .here rfl (MSub.cons .here rfl MSub.nil))) ?_ ?_
  · refine ⟨?_, ?_, ?_, ?_⟩
    · (try dsimp only) <;> (first | omega | rfl | assumption | (simp; done))
    · (try dsimp only) <;> (rw [eL14]; simp [logL, bodyL])
    · (try dsimp only) <;> (rfl)
    · (try dsimp only) <;> (rw [eL14, head_len]; omega)
  intro gh N0 Gl0 hN0 hGl0 hF0
  obtain ⟨k, v, B, ve, es⟩ := gh; dsimp only at hF0 hN0 ⊢
  obtain ⟨hk, eB, eE, lB⟩ := hF0
  have hs := hs.mono hGl0
  have hK := hK.mono hGl0
  have lE : es.length = k := by rw [eE, ends_len]
  refine .seq ?_
  refine Wk.rg [0] rfl rfl ?_
  refine cp rfl .no (.u rfl) (.u rfl) rfl ?_
  refine .nil ?_
  refine .code ?_
  refine .seq ?_
  refine .cond rfl (fun c1 => ?_) (fun c1 => ?_)
  · have c1k := c1
    try simp only [decide_eq_true_eq, decide_eq_false_iff_not, Int.not_lt, Int.not_le, gt_iff_lt, ge_iff_le, Bool.or_eq_true, Bool.and_eq_true, Bool.or_eq_false_iff, Bool.and_eq_false_iff, Bool.not_eq_true', Bool.not_eq_false', Int.toNat_natCast, bne_iff_ne, beq_iff_eq, bne_eq_false_iff_eq, beq_eq_false_iff_ne, ne_eq] at c1
    refine .skip ?_
    refine .code ?_
    refine .seq ?_
    refine .block ?_
    refine .seq ?_
    refine Wk.rg [0, 1] rfl rfl ?_
    refine mv rfl .no (.u rfl) ?_
    refine asg rfl .no (.u rfl) ?_
    refine .nil ?_
    refine .code ?_
    refine .seq ?_
    refine Wk.draw (mc := ⟨false, false⟩) [0, 1, 2, 3, 4, 5, 6, 7, 8, 9, 10, 11, 12, 13, 14, 15] Fx.mix (by kernel_rfl) ?_
    refine fz rfl .no FxWalG.fo47_0 (.u rfl) ?_
    refine lA rfl .no Fx.ag42 (.u rfl) (fun _ => RdN.part (n := 32) (cs' := ba 32 root) (.there (.there .here)) (app_l)) (fun _ => (by first | exact (ba_len _ _).trans (ba_len _ _).symm | exact (wa_len _ _).trans (wa_len _ _).symm | exact ba_len _ _ | exact wa_len _ _ | rfl | (simp only [wa_len, ba_len, List.length_append, List.length_cons, List.length_nil]))) ?_
    refine fz rfl .no FxWalG.fo47_1 (.u rfl) ?_
    refine lA rfl .no Fx.ag45 (.u rfl) (fun _ => RdN.part (n := 5) (cs' := [V h.kind, V h.level, uv .u64 h.gen, uv .u64 h.epoch, uv .u64 h.num]) (.there (.there .here)) (of_r rfl)) (fun _ => (by first | exact (ba_len _ _).trans (ba_len _ _).symm | exact (wa_len _ _).trans (wa_len _ _).symm | exact ba_len _ _ | exact wa_len _ _ | rfl | (simp only [wa_len, ba_len, List.length_append, List.length_cons, List.length_nil]))) ?_
    refine mv rfl .no (.u rfl) ?_
    refine ci rfl .no rfl Fx.cv3_43 (.u rfl) ?_
    refine mv rfl .no (.u rfl) ?_
    refine mv rfl .no (.u rfl) ?_
    refine ih rfl .no Fx.se50 (.u rfl) (.u rfl) (fun _ => by omega) (fun _ => by omega) (fun _ => hs.sl.nn (k := k) (by omega)) ?_
    obtain ⟨p30, ep30⟩ := getx (k := k) (xs := ps) (by omega)
    have hq30 := hs.get ep30
    refine ld rfl .no Fx.ag27 (.u rfl) (fun _ => (hs.at (k) (by omega) ep30).rd) ?_
    have hp30 := hb p30 (List.mem_of_getElem? ep30)
    refine kc rfl Fx.go23 (Eva.cons (.u rfl) (Eva.cons (.u rfl) (Eva.cons (.u rfl) (Eva.cons (.u rfl) Eva.nil)))) (wLay_ok root h _ p30.2 p30.1 _ hq30 hK) ?_
    rintro _ G31 μ31 hG31 ⟨v31, L31, e31, hL31, rfl, rfl⟩
    have hs := hs.mono hG31
    have hK := hK.mono hG31
    have hq30 := hq30.mono hG31
    refine mv rfl .no (.u rfl) ?_
    refine ex rfl .no (.u rfl) rfl ?_
    refine ex rfl .no (.u rfl) rfl ?_
    refine asg rfl .no (.u rfl) ?_
    refine asg rfl .no (.u rfl) ?_
    refine .nil ?_
    obtain ⟨eS, ee, lS⟩ := log_step (root := root) (h := h) ep30 hp30 hL31
    refine .code ?_
    refine .seq ?_
    refine .seq ?_
    refine Wk.rg [0, 1] rfl rfl ?_
    refine mv rfl .no (.u rfl) ?_
    refine cp rfl .no (.u rfl) (.u rfl) rfl ?_
    refine .nil ?_
    refine .code ?_
    refine .cond rfl (fun c2 => ?_) (fun c2 => ?_)
    · have c2k := c2
      try simp only [decide_eq_true_eq, decide_eq_false_iff_not, Int.not_lt, Int.not_le, gt_iff_lt, ge_iff_le, Bool.or_eq_true, Bool.and_eq_true, Bool.or_eq_false_iff, Bool.and_eq_false_iff, Bool.not_eq_true', Bool.not_eq_false', Int.toNat_natCast, bne_iff_ne, beq_iff_eq, bne_eq_false_iff_eq, beq_eq_false_iff_ne, ne_eq] at c2
      exact absurd ee c2
    · have c2k := c2
      try simp only [decide_eq_true_eq, decide_eq_false_iff_not, Int.not_lt, Int.not_le, gt_iff_lt, ge_iff_le, Bool.or_eq_true, Bool.and_eq_true, Bool.or_eq_false_iff, Bool.and_eq_false_iff, Bool.not_eq_true', Bool.not_eq_false', Int.toNat_natCast, bne_iff_ne, beq_iff_eq, bne_eq_false_iff_eq, beq_eq_false_iff_ne, ne_eq] at c2
      refine .skip ?_
      refine .code ?_
      refine .seq ?_
      refine wk_fb .here (by first | (intro b hb; cases hb; done) | simp [keys, Res.keys]) ?_; intro GfR31 hR31 hleR31 evR31 hsR31; subst evR31
      have hs := hs.mono hleR31
      have hK := hK.mono hleR31
      have hq30 := hq30.mono hleR31
      refine Wk.rg [0, 1, 2, 3] rfl rfl ?_
      refine mv rfl .no (.u rfl) ?_
      refine mv rfl .no (.u rfl) ?_
      refine apY rfl Fx.se27 Fx.zv5 (.u rfl) (.u rfl) (.there .here) hsR31.sc (by (try simp only [List.length_append, List.length_cons, List.length_nil, yl_len]); omega) ?_
      intro v38 L38 ov38 eL38
      have lL38 : L38.length = B.length + L31.length := by rw [eL38, List.length_append]
      refine asg rfl .no (.u rfl) ?_
      refine .nil ?_
      refine .code ?_
      refine Wk.rg [0, 1, 2, 3, 4, 5] rfl rfl ?_
      refine mv rfl .no (.u rfl) ?_
      refine mv rfl .no (.u rfl) ?_
      refine lr rfl .no Fx.sn27 (.u rfl) .here ?_
      refine Go.Tan.b1 rfl Fx.se57 Fx.zv3 (.u rfl) rfl rfl (by decide) ?_; intro b42
      refine apS (L38.length) rfl Fx.se57 Fx.zv3 rfl (.u rfl) (.u rfl) (.there (.there .here)) .here (rfl) (one1 rfl) (by omega) (by unfold maxLen; omega) ?_; intro v43 ov43
      refine asg rfl .no (.u rfl) ?_
      refine .nil ?_
      refine .blk ?_
      refine .code ?_
      refine Wk.rg [0, 1] rfl rfl ?_
      refine arn (((k + 1) : Nat) : Int) rfl .no (.u rfl) (.u rfl) rfl (fun _ => by omega) (fun _ => wrap_i64 (by omega) (by omega)) ?_
      refine mv rfl .no (.u rfl) ?_
      refine .nil ?_
      refine We.lpo (k + 1, v38, L38, v43, es ++ [L38.length]) ?_ ?_ ?_ ?_ ?_
      · exact (ESub.cons rfl rfl (ESub.cons rfl rfl (ESub.cons rfl (by first | rfl | exact evi (by omega)) (ESub.cons rfl rfl (ESub.cons rfl rfl (ESub.cons rfl rfl ESub.nil))))))
      · exact (MSub.cons .here rfl (MSub.cons (.there .here) rfl (MSub.cons (.there .here) rfl MSub.nil)))
      · first | omega | (dsimp only; omega)
      · exact ((hGl0).trans hG31).trans hleR31
      · refine ⟨?_, ?_, ?_, ?_⟩
        · (try dsimp only) <;> (first | omega | rfl | assumption | (simp; done))
        · (try dsimp only) <;> (rw [eL38, eS, eB])
        · (try dsimp only) <;> (rw [ends_succ, eE]; congr 2; rw [← log_len, eS, eL38, eB])
        · (try dsimp only) <;> (first | omega | rfl | assumption | (simp; done))
  · have c1k := c1
    try simp only [decide_eq_true_eq, decide_eq_false_iff_not, Int.not_lt, Int.not_le, gt_iff_lt, ge_iff_le, Bool.or_eq_true, Bool.and_eq_true, Bool.or_eq_false_iff, Bool.and_eq_false_iff, Bool.not_eq_true', Bool.not_eq_false', Int.toNat_natCast, bne_iff_ne, beq_iff_eq, bne_eq_false_iff_eq, beq_eq_false_iff_ne, ne_eq] at c1
    refine .exit ?_
    refine .xcode ?_
    refine .xlp ?_
    refine .xblk ?_
    refine .code ?_
    refine .seq ?_
    refine Wk.rg [0, 1, 2, 3, 4, 5, 6, 7] rfl rfl ?_
    refine mv rfl .no (.u rfl) ?_
    refine mv rfl .no (.u rfl) ?_
    refine mv rfl .no (.u rfl) ?_
    refine lr rfl .no Fx.sn27 (.u rfl) (.there .here) ?_
    refine cp rfl .no (.u rfl) (.u rfl) rfl ?_
    refine asg rfl .no (.u rfl) ?_
    refine asg rfl .no (.u rfl) ?_
    refine asg rfl .no (.u rfl) ?_
    refine .nil ?_
    refine .code ?_
    refine .ret ?_
    refine We.fin Tryd.results28 (.tmp rfl (.tmp rfl (.tmp rfl .nil))) (MSub.cons (.there .here) rfl (MSub.cons .here rfl MSub.nil)) ?_
    obtain rfl : k = ps.length := by omega
    have e1 : B = logL root h (ps.map (·.2)) := by rw [eB, List.take_of_length_le (by rw [List.length_map]; omega)]
    have e2 : 30 ≤ B.length := by rw [eB, log_len]; omega
    refine ⟨v, B, ve, es, e1, eE, rfl, ?_⟩
    rw [decide_eq_true (show (B.length : Int) ≥ 30 by omega)]; rfl

theorem told16_ok (xh : Hd) (s : Sh) (ps : List (Sh × List Y)) (used : Int) (torn : Bool) (root : Nat → Y) (h : Hd) (hq : Sh) (qs : List (Sh × List Y)) (n : Nat) (G : PM) (hs : SlP G s ps) (hs2 : SlP G hq qs) (hl : ps.length ≤ 1000000000) : Ct Tryd.prog 31 ([.agg ([V xh.kind, V xh.level, uv .u64 xh.gen, uv .u64 xh.epoch, uv .u64 xh.num, (s.val ps.length), .int .i64 used, .bool torn] : List Value).toArray, .agg (ba 32 root ++ [V h.kind, V h.level, uv .u64 h.gen, uv .u64 h.epoch, uv .u64 h.num]).toArray, hq.val qs.length, .int .i64 (n : Int)] : List Value).toArray G [] (fun _ μ' u => μ' = [] ∧ u = .bool (toldP xh (ps.map (·.2)) h (qs.map (·.2)) n)) := by
  refine Ct.of Tryd.func31 rfl Tryd.ntmps31 rfl fun w0 hs0 => ?_
  refine .seq ?_
  refine Wk.rg [0, 1, 2] rfl rfl ?_
  refine bx rfl (.u rfl) rfl ?_; intro b4
  refine bx rfl (.u rfl) rfl ?_; intro b5
  refine asg rfl .no (.u rfl) ?_
  refine .nil ?_
  refine .code ?_
  refine .seq ?_
  refine .seq ?_
  refine Wk.rg [0, 1, 2, 3, 4, 5, 6, 7, 8, 9, 10, 11, 12, 13, 14, 15, 16, 17] rfl rfl ?_
  refine fz rfl .no Fx.fo52_0 (.u rfl) ?_
  refine lA rfl .no Fx.ag45 (.u rfl) (fun _ => RdN.part (n := 5) (cs' := [V xh.kind, V xh.level, uv .u64 xh.gen, uv .u64 xh.epoch, uv .u64 xh.num]) (.there .here) (rfl)) (fun _ => rfl) ?_
  refine fz rfl .no FxWalG.fo47_1 (.u rfl) ?_
  refine lA rfl .no Fx.ag45 (.u rfl) (fun _ => RdN.part (n := 5) (cs' := [V h.kind, V h.level, uv .u64 h.gen, uv .u64 h.epoch, uv .u64 h.num]) .here (of_r rfl)) (fun _ => rfl) ?_
  refine nqC (decide (xh = h)) rfl .no Fx.eqt45 (.u rfl) (.u rfl) (fun _ => hd_conf _) (fun _ => hd_conf _) (fun _ => hd_iff) ?_
  refine mv rfl .no (.u rfl) ?_
  refine fz rfl (.f rfl rfl) Fx.fo52_1 (.u rfl) ?_
  refine ld rfl (.f rfl rfl) Fx.ag50 (.s rfl) (fun hc => Rd.own (.there .here) (by first | exact wap_f rfl | rfl)) ?_
  refine ln rfl (.f rfl rfl) Fx.sn50 (.s rfl) ?_
  refine mv rfl (.f rfl rfl) (.u rfl) ?_
  refine cp rfl (.f rfl rfl) (.s rfl) (.s rfl) rfl ?_
  refine pkO rfl .no (.u rfl) (.s rfl) ?_
  refine mv rfl .no (.u rfl) ?_
  refine mv rfl (.f rfl rfl) (.u rfl) ?_
  refine mv rfl (.f rfl rfl) (.u rfl) ?_
  refine ln rfl (.f rfl rfl) Fx.sn50 (.s rfl) ?_
  refine cp rfl (.f rfl rfl) (.s rfl) (.s rfl) rfl ?_
  refine pkO rfl .no (.u rfl) (.s rfl) ?_
  refine .nil ?_
  refine .code ?_
  refine .cond rfl (fun c1 => ?_) (fun c1 => ?_)
  · have c1k := c1
    try simp only [decide_eq_true_eq, decide_eq_false_iff_not, Int.not_lt, Int.not_le, gt_iff_lt, ge_iff_le, Bool.or_eq_true, Bool.and_eq_true, Bool.or_eq_false_iff, Bool.and_eq_false_iff, Bool.not_eq_true', Bool.not_eq_false', Int.toNat_natCast, bne_iff_ne, beq_iff_eq, bne_eq_false_iff_eq, beq_eq_false_iff_ne, ne_eq] at c1
    refine .seq ?_
    refine Wk.rg [0] rfl rfl ?_
    refine asg rfl .no (.u rfl) ?_
    refine .nil ?_
    refine .code ?_
    refine .ret ?_
    refine We.fin0 Tryd.results31 (.tmp rfl .nil) ?_
    exact ⟨rfl, congrArg Value.bool (told_no (fun hq => by rw [List.length_map, List.length_map] at hq; rcases c1 with (c1 | c1) | c1 <;> first | exact c1 hq.1 | omega)).symm⟩
  · have c1k := c1
    try simp only [decide_eq_true_eq, decide_eq_false_iff_not, Int.not_lt, Int.not_le, gt_iff_lt, ge_iff_le, Bool.or_eq_true, Bool.and_eq_true, Bool.or_eq_false_iff, Bool.and_eq_false_iff, Bool.not_eq_true', Bool.not_eq_false', Int.toNat_natCast, bne_iff_ne, beq_iff_eq, bne_eq_false_iff_eq, beq_eq_false_iff_ne, ne_eq] at c1
    refine .skip ?_
    refine .code ?_
    refine .seq ?_
    refine .seq ?_
    refine Wk.rg [0, 1, 2, 3] rfl rfl ?_
    refine fz rfl .no Fx.fo52_1 (.u rfl) ?_
    refine ld rfl .no Fx.ag50 (.u rfl) (fun _ => Rd.own (.there .here) (by first | exact wap_f rfl | rfl)) ?_
    refine ln rfl .no Fx.sn50 (.u rfl) ?_
    refine mv rfl .no (.u rfl) ?_
    refine .nil ?_
    refine .code ?_
    refine .block ?_
    refine Wk.lop (α := Nat) (fun k => [(31, true, .int .i64 (k : Int))]) (fun _ => [])
      (fun k Gl => (k ≤ ps.length) ∧ ((ps.map (·.2)).take k = (qs.map (·.2)).take k)) (fun k => ps.length - k) 0 [(2, true, _), (4, true, _), (30, true, _)] [_, _]
      (ESub.cons rfl (by first | rfl | exact evi (by omega)) (ESub.cons rfl rfl (ESub.cons rfl rfl (ESub.cons rfl rfl ESub.nil))))
      (MSub.cons .here rfl (MSub.cons .here rfl MSub.nil)) ?_ ?_
    · refine ⟨?_, ?_⟩
      · (try dsimp only) <;> (first | omega | rfl | assumption | (simp; done))
      · (try dsimp only) <;> (rfl)
    intro k N0 Gl0 hN0 hGl0 hF0
    try dsimp only at hF0 hN0 ⊢
    obtain ⟨hk, he⟩ := hF0
    have hs := hs.mono hGl0
    have hs2 := hs2.mono hGl0
    refine .seq ?_
    refine Wk.rg [0] rfl rfl ?_
    refine cp rfl .no (.u rfl) (.u rfl) rfl ?_
    refine .nil ?_
    refine .code ?_
    refine .seq ?_
    refine .cond rfl (fun c2 => ?_) (fun c2 => ?_)
    · have c2k := c2
      try simp only [decide_eq_true_eq, decide_eq_false_iff_not, Int.not_lt, Int.not_le, gt_iff_lt, ge_iff_le, Bool.or_eq_true, Bool.and_eq_true, Bool.or_eq_false_iff, Bool.and_eq_false_iff, Bool.not_eq_true', Bool.not_eq_false', Int.toNat_natCast, bne_iff_ne, beq_iff_eq, bne_eq_false_iff_eq, beq_eq_false_iff_ne, ne_eq] at c2
      refine .skip ?_
      refine .code ?_
      refine .seq ?_
      refine .block ?_
      refine .seq ?_
      refine Wk.rg [0, 1] rfl rfl ?_
      refine mv rfl .no (.u rfl) ?_
      refine asg rfl .no (.u rfl) ?_
      refine .nil ?_
      refine .code ?_
      refine .seq ?_
      refine Wk.draw (mc := ⟨false, false⟩) [0, 1, 2, 3, 4, 5, 6, 7, 8, 9, 10, 11] Fx.mix (by kernel_rfl) ?_
      refine fz rfl .no Fx.fo52_1 (.u rfl) ?_
      refine ld rfl .no Fx.ag50 (.u rfl) (fun _ => Rd.own (.there .here) (by first | exact wap_f rfl | rfl)) ?_
      refine mv rfl .no (.u rfl) ?_
      refine ih rfl .no Fx.se50 (.u rfl) (.u rfl) (fun _ => by omega) (fun _ => by omega) (fun _ => hs.sl.nn (k := k) (by omega)) ?_
      obtain ⟨p38, ep38⟩ := getx (k := k) (xs := ps) (by omega)
      have hq38 := hs.get ep38
      refine ld rfl .no Fx.ag27 (.u rfl) (fun _ => (hs.at (k) (by omega) ep38).rd) ?_
      refine sB rfl .no Fx.bs27_9 (.u rfl) (fun _ => hq38.sc) ?_
      refine mv rfl .no (.u rfl) ?_
      refine mv rfl .no (.u rfl) ?_
      refine ih rfl .no Fx.se50 (.u rfl) (.u rfl) (fun _ => by omega) (fun _ => by omega) (fun _ => hs2.sl.nn (k := k) (by omega)) ?_
      obtain ⟨p43, ep43⟩ := getx (k := k) (xs := qs) (by omega)
      have hq43 := hs2.get ep43
      refine ld rfl .no Fx.ag27 (.u rfl) (fun _ => (hs2.at (k) (by omega) ep43).rd) ?_
      refine sB rfl .no Fx.bs27_9 (.u rfl) (fun _ => hq43.sc) ?_
      refine cbn rfl .no (.u rfl) (.u rfl) ?_
      refine .nil ?_
      refine .code ?_
      refine .cond rfl (fun c3 => ?_) (fun c3 => ?_)
      · have c3k := c3
        try simp only [decide_eq_true_eq, decide_eq_false_iff_not, Int.not_lt, Int.not_le, gt_iff_lt, ge_iff_le, Bool.or_eq_true, Bool.and_eq_true, Bool.or_eq_false_iff, Bool.and_eq_false_iff, Bool.not_eq_true', Bool.not_eq_false', Int.toNat_natCast, bne_iff_ne, beq_iff_eq, bne_eq_false_iff_eq, beq_eq_false_iff_ne, ne_eq] at c3
        refine .seq ?_
        refine Wk.rg [0] rfl rfl ?_
        refine asg rfl .no (.u rfl) ?_
        refine .nil ?_
        refine .code ?_
        refine .ret ?_
        refine We.fin0 Tryd.results31 (.tmp rfl .nil) ?_
        exact ⟨rfl, congrArg Value.bool (told_no (fun hq => take_differ (map_at ep38) (map_at ep43) c3 (by omega) hq.2.2.2)).symm⟩
      · have c3k := c3
        try simp only [decide_eq_true_eq, decide_eq_false_iff_not, Int.not_lt, Int.not_le, gt_iff_lt, ge_iff_le, Bool.or_eq_true, Bool.and_eq_true, Bool.or_eq_false_iff, Bool.and_eq_false_iff, Bool.not_eq_true', Bool.not_eq_false', Int.toNat_natCast, bne_iff_ne, beq_iff_eq, bne_eq_false_iff_eq, beq_eq_false_iff_ne, ne_eq] at c3
        refine .skip ?_
        refine .blk ?_
        refine .code ?_
        refine Wk.rg [0, 1] rfl rfl ?_
        refine arn (((k + 1) : Nat) : Int) rfl .no (.u rfl) (.u rfl) rfl (fun _ => by omega) (fun _ => wrap_i64 (by omega) (by omega)) ?_
        refine mv rfl .no (.u rfl) ?_
        refine .nil ?_
        refine We.lpo (k + 1) ?_ ?_ ?_ ?_ ?_
        · exact (ESub.cons rfl (by first | rfl | exact evi (by omega)) (ESub.cons rfl rfl (ESub.cons rfl rfl (ESub.cons rfl rfl ESub.nil))))
        · exact (MSub.cons .here rfl (MSub.cons .here rfl MSub.nil))
        · first | omega | (dsimp only; omega)
        · exact hGl0
        · refine ⟨?_, ?_⟩
          · (try dsimp only) <;> (first | omega | rfl | assumption | (simp; done))
          · (try dsimp only) <;> (exact take_step he (map_at ep38) (by rw [c3]; exact map_at ep43))
    · have c2k := c2
      try simp only [decide_eq_true_eq, decide_eq_false_iff_not, Int.not_lt, Int.not_le, gt_iff_lt, ge_iff_le, Bool.or_eq_true, Bool.and_eq_true, Bool.or_eq_false_iff, Bool.and_eq_false_iff, Bool.not_eq_true', Bool.not_eq_false', Int.toNat_natCast, bne_iff_ne, beq_iff_eq, bne_eq_false_iff_eq, beq_eq_false_iff_ne, ne_eq] at c2
      refine .exit ?_
      refine .xcode ?_
      refine .xlp ?_
      refine .xblk ?_
      refine .code ?_
      refine .seq ?_
      refine Wk.rg [0] rfl rfl ?_
      refine asg rfl .no (.u rfl) ?_
      refine .nil ?_
      refine .code ?_
      refine .ret ?_
      refine We.fin0 Tryd.results31 (.tmp rfl .nil) ?_
      refine ⟨rfl, congrArg Value.bool (told_yes ⟨c1.1.1, ?_, ?_, ?_⟩).symm⟩
      · rw [List.length_map]; omega
      · rw [List.length_map]; omega
      · have h1 := he; rw [List.take_of_length_le (by rw [List.length_map]; omega)] at h1; rw [h1]; congr 1; omega

end Go.Proofs.YtoogjfldgeiapaaDoor
