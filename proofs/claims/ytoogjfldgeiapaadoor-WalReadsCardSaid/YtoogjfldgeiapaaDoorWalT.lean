/- Contracts of functions, walked. -/
import Derived.Test.YtoogjfldgeiapaaDoorWalS
import Derived.Test.YtoogjfldgeiapaaDoorWalB
namespace Go.Proofs.YtoogjfldgeiapaaDoor
set_option linter.unusedSimpArgs false
set_option linter.unusedVariables false
open Go.Tan Go.RowKit

namespace Fx
theorem go38 : goFn Tryd.prog 38 = true := by kernel_rfl
theorem go39 : goFn Tryd.prog 39 = true := by kernel_rfl
theorem go41 : goFn Tryd.prog 41 = true := by kernel_rfl
theorem go65 : goFn Tryd.prog 65 = true := by kernel_rfl
theorem go64 : goFn Tryd.prog 64 = true := by kernel_rfl
theorem go42 : goFn Tryd.prog 42 = true := by kernel_rfl
theorem go43 : goFn Tryd.prog 43 = true := by kernel_rfl
theorem go45 : goFn Tryd.prog 45 = true := by kernel_rfl
end Fx
theorem wLay_ok (root : Nat → Y) (h : Hd) (n : BitVec 64) (p : List Y) (hp : Sh) (G : PM) (hs : SlR G 1 encY hp p) (hK : RdNP G 1 0 (wa 64 kW)) : Ct Tryd.prog 23 ([.agg (ba 32 root).toArray, .agg ([V h.kind, V h.level, uv .u64 h.gen, uv .u64 h.epoch, uv .u64 h.num] : List Value).toArray, uv .u64 n, hp.val p.length] : List Value).toArray G [] (fun _ μ' u => ∃ v L e, (L, e) = layP root h n p ∧ μ' = [rB v 5 L] ∧ u = .tuple #[v, .int .i64 e]) := by
  refine Ct.of Tryd.func23 rfl Tryd.ntmps23 rfl fun w0 hs0 => ?_
  refine .seq ?_
  refine Wk.rg [0, 1, 2, 3] rfl rfl ?_
  refine bx rfl (.u rfl) rfl ?_; intro b4
  refine bx rfl (.u rfl) rfl ?_; intro b5
  refine asg rfl .no (.u rfl) ?_
  refine asg rfl .no (.u rfl) ?_
  refine .nil ?_
  refine .code ?_
  refine .seq ?_
  refine .seq ?_
  refine Wk.rg [0, 1, 2] rfl rfl ?_
  refine mv rfl .no (.u rfl) ?_
  refine ln rfl .no Fx.sn27 (.u rfl) ?_
  refine cp rfl .no (.u rfl) (.u rfl) rfl ?_
  refine .nil ?_
  refine .code ?_
  refine .cond rfl (fun c1 => ?_) (fun c1 => ?_)
  · have c1k := c1
    try simp only [decide_eq_true_eq, decide_eq_false_iff_not, Int.not_lt, Int.not_le, gt_iff_lt, ge_iff_le, Bool.or_eq_true, Bool.and_eq_true, Bool.or_eq_false_iff, Bool.and_eq_false_iff, Bool.not_eq_true', Bool.not_eq_false', Int.toNat_natCast, bne_iff_ne, beq_iff_eq, bne_eq_false_iff_eq, beq_eq_false_iff_ne, ne_eq] at c1
    refine .seq ?_
    refine Wk.rg [0, 1] rfl rfl ?_
    refine asg rfl .no (.u rfl) ?_
    refine asg rfl .no (.u rfl) ?_
    refine .nil ?_
    refine .code ?_
    refine .ret ?_
    refine we_nilB 5 ?_
    refine We.fin Tryd.results23 (.tmp rfl (.tmp rfl .nil)) (MSub.cons .here rfl MSub.nil) ?_
    exact ⟨_, [], 4, lay_long (by omega), rfl, rfl⟩
  · have c1k := c1
    try simp only [decide_eq_true_eq, decide_eq_false_iff_not, Int.not_lt, Int.not_le, gt_iff_lt, ge_iff_le, Bool.or_eq_true, Bool.and_eq_true, Bool.or_eq_false_iff, Bool.and_eq_false_iff, Bool.not_eq_true', Bool.not_eq_false', Int.toNat_natCast, bne_iff_ne, beq_iff_eq, bne_eq_false_iff_eq, beq_eq_false_iff_ne, ne_eq] at c1
    refine .skip ?_
    refine .code ?_
    refine .seq ?_
    refine Wk.draw (mc := ⟨false, false⟩) [0, 1, 3, 5, 7, 2, 4, 6, 8, 9] Fx.mix (by kernel_rfl) ?_
    refine lA rfl .no Fx.ag42 (.u rfl) (fun _ => RdN.own (.there .here)) (fun _ => (by first | exact (key_len _ _).trans (key_len _ _).symm | exact key_len _ _ | exact ba_len _ _ | rfl)) ?_
    refine lA rfl .no Fx.ag45 (.u rfl) (fun _ => RdN.own .here) (fun _ => (by first | exact (key_len _ _).trans (key_len _ _).symm | exact key_len _ _ | exact ba_len _ _ | rfl)) ?_
    refine mv rfl .no (.u rfl) ?_
    refine lA rfl .no Fx.ag45 (.u rfl) (fun _ => RdN.own .here) (fun _ => (by first | exact (key_len _ _).trans (key_len _ _).symm | exact key_len _ _ | exact ba_len _ _ | rfl)) ?_
    refine mv rfl .no (.u rfl) ?_
    refine kv rfl .no Fx.go38 (Eva.cons (.u rfl) (Eva.cons (.u rfl) Eva.nil)) (fun _ => KeyOf_ok root h _ hK) ?_
    refine kv rfl .no Fx.go39 (Eva.cons (.u rfl) Eva.nil) (fun _ => Nonce_ok _ _) ?_
    refine kc rfl Fx.go40 (Eva.cons (.u rfl) Eva.nil) (Ct.frzB (nLay_ok h _)) ?_
    rintro _ G25 μ25 hG25 ⟨h25, L25, eL25, rfl, rfl, hs25⟩
    have hs := hs.mono hG25
    have hK := hK.mono hG25
    refine kc rfl Fx.go16 (Eva.cons (.u rfl) (Eva.cons (.u rfl) (Eva.cons (.u rfl) (Eva.cons (.u rfl) Eva.nil)))) (Ct.rowc (Seal_ok (keyEnc root (headL h)) (keyMac root (headL h)) (nonceF n) L25 h25 p hp _ hs25 hs hK (by rw [eL25, head_len]; decide) (by omega))) ?_
    rintro v27 G27 μ27 hG27 ⟨L27, ov27, eL27, rfl⟩
    have hs := hs.mono hG27
    have hK := hK.mono hG27
    have hs25 := hs25.mono hG27
    refine asg rfl .no (.u rfl) ?_
    refine .nil ?_
    have lL27 : L27.length = p.length + 16 := by rw [eL27, seal_len]
    refine .code ?_
    refine .seq ?_
    refine wk_fb .here (by first | (intro b hb; cases hb; done) | simp [keys, Res.keys]) ?_; intro GfR27 hR27 hleR27 evR27 hsR27; subst evR27
    have hs := hs.mono hleR27
    have hK := hK.mono hleR27
    have hs25 := hs25.mono hleR27
    refine Wk.rg [0] rfl rfl ?_
    refine asg rfl .no (.u rfl) ?_
    refine .nil ?_
    refine .code ?_
    refine .seq ?_
    refine .seq ?_
    refine wk_nilB 5 ?_
    refine Wk.rg [0] rfl rfl ?_
    refine asg rfl .no (.u rfl) ?_
    refine .nil ?_
    refine .code ?_
    refine .block ?_
    refine Wk.lop (α := Nat × Sh × List Y × Value × List Y) (fun gh => [(10, true, gh.2.1.val gh.2.2.1.length), (11, true, gh.2.2.2.1), (12, true, .bool (decide (gh.1 = 0)))]) (fun gh => [rB gh.2.2.2.1 5 gh.2.2.2.2])
      (fun gh Gl => (SlR Gl 1 encY gh.2.1 gh.2.2.1) ∧ (gh.2.2.1 = L27.drop (128 * gh.1)) ∧ (gh.2.2.2.2 = outL L27 gh.1) ∧ (128 * gh.1 ≤ L27.length + 127)) (fun gh => gh.2.2.1.length) (0, _, _, .slice none 0 0, []) [] [_, _]
      (ESub.cons rfl rfl (ESub.cons rfl rfl (ESub.cons rfl rfl ESub.nil)))
      (MSub.cons .here rfl (MSub.cons .here rfl (MSub.cons .here rfl MSub.nil))) ?_ ?_
    · refine ⟨?_, ?_, ?_, ?_⟩
      · (try dsimp only) <;> (exact hsR27)
      · (try dsimp only) <;> (rfl)
      · (try dsimp only) <;> (rfl)
      · (try dsimp only) <;> (first | omega | rfl | assumption | (simp; done))
    intro gh N0 Gl0 hN0 hGl0 hF0
    obtain ⟨j, r, M, v, O⟩ := gh; dsimp only at hF0 hN0 ⊢
    obtain ⟨hr, eM, eO, hj⟩ := hF0
    have hs := hs.mono hGl0
    have hK := hK.mono hGl0
    have hs25 := hs25.mono hGl0
    have hsR27 := hsR27.mono hGl0
    have lM : M.length = L27.length - 128 * j := by rw [eM]; simp
    have lO := out_len L27 j
    rw [← eO] at lO
    refine .seq ?_
    refine .seq ?_
    refine Wk.rg [0, 1, 2] rfl rfl ?_
    refine mv rfl .no (.u rfl) ?_
    refine ln rfl .no Fx.sn27 (.u rfl) ?_
    refine cp rfl .no (.u rfl) (.u rfl) rfl ?_
    refine .nil ?_
    refine .code ?_
    refine .cond rfl (fun c2 => ?_) (fun c2 => ?_)
    · have c2k := c2
      try simp only [decide_eq_true_eq, decide_eq_false_iff_not, Int.not_lt, Int.not_le, gt_iff_lt, ge_iff_le, Bool.or_eq_true, Bool.and_eq_true, Bool.or_eq_false_iff, Bool.and_eq_false_iff, Bool.not_eq_true', Bool.not_eq_false', Int.toNat_natCast, bne_iff_ne, beq_iff_eq, bne_eq_false_iff_eq, beq_eq_false_iff_ne, ne_eq] at c2
      refine .skip ?_
      refine .code ?_
      refine .seq ?_
      refine .block ?_
      refine .seq ?_
      refine Wk.rg [0, 1, 2, 3] rfl rfl ?_
      refine mv rfl .no (.u rfl) ?_
      refine ln rfl .no Fx.sn27 (.u rfl) ?_
      refine mIn (M.length) (128) rfl .no (.u rfl) (.u rfl) (fun _ => by omega) (fun _ => by omega) ?_
      refine asg rfl .no (.u rfl) ?_
      refine .nil ?_
      refine .code ?_
      refine .seq ?_
      refine Wk.rg [0] rfl rfl ?_
      refine asg rfl .no (.u rfl) ?_
      refine .nil ?_
      refine .code ?_
      refine .seq ?_
      refine .seq ?_
      refine Wk.rg [0, 1, 2, 3, 4] rfl rfl ?_
      refine mv rfl .no (.u rfl) ?_
      refine mv rfl .no (.u rfl) ?_
      refine ln rfl .no Fx.sn27 (.u rfl) ?_
      refine cp rfl .no (.u rfl) (.u rfl) rfl ?_
      refine asg rfl .no (.u rfl) ?_
      refine .nil ?_
      refine .code ?_
      refine .block ?_
      refine .seq ?_
      refine Wk.rg [0, 1, 2, 3, 4] rfl rfl ?_
      refine mv rfl .no (.u rfl) ?_
      refine mv rfl .no (.u rfl) ?_
      refine mv rfl (.t rfl rfl) (.u rfl) ?_
      refine pkA rfl .no (.u rfl) (.s rfl) ?_
      refine asg rfl .no (.u rfl) ?_
      refine .nil ?_
      refine .code ?_
      refine .cond rfl (fun c3 => ?_) (fun c3 => ?_)
      · have c3k := c3
        try simp only [decide_eq_true_eq, decide_eq_false_iff_not, Int.not_lt, Int.not_le, gt_iff_lt, ge_iff_le, Bool.or_eq_true, Bool.and_eq_true, Bool.or_eq_false_iff, Bool.and_eq_false_iff, Bool.not_eq_true', Bool.not_eq_false', Int.toNat_natCast, bne_iff_ne, beq_iff_eq, bne_eq_false_iff_eq, beq_eq_false_iff_ne, ne_eq] at c3
        refine Wk.rg [0] rfl rfl ?_
        refine asg rfl .no (.u rfl) ?_
        refine .nil ?_
        refine .blk ?_
        refine .code ?_
        refine .seq ?_
        refine Wk.draw (mc := ⟨false, false⟩) [0, 1, 2, 3, 4, 7, 8, 9, 5, 6, 10, 11] Fx.mix (by kernel_rfl) ?_
        refine mv rfl .no (.u rfl) ?_
        refine mv rfl .no (.u rfl) ?_
        refine mv rfl .no (.u rfl) ?_
        refine mv rfl .no (.u rfl) ?_
        refine kE ((min M.length 128)) rfl .no Fx.se27 hr (.u rfl) (.u rfl) (fun _ => by omega) (fun _ => by omega) ?_
        intro h51 L51 eL51 lL51 hs51
        have lL51 := lL51 rfl
        refine mv rfl .no (.u rfl) ?_
        refine mv rfl .no (.u rfl) ?_
        refine kE ((min M.length 128)) rfl .no Fx.se27 hr (.u rfl) (.u rfl) (fun _ => by omega) (fun _ => by omega) ?_
        intro h56 L56 eL56 lL56 hs56
        have lL56 := lL56 rfl
        refine kc rfl Fx.go41 (Eva.cons (.u rfl) (Eva.cons (.u rfl) Eva.nil)) (Ct.frzB (whead_ok 1#8 L51 h51 _ hs51 (by omega))) ?_
        rintro _ G52 μ52 hG52 ⟨h52, L52, eL52, rfl, rfl, hs52⟩
        have hs := hs.mono hG52
        have hK := hK.mono hG52
        have hs25 := hs25.mono hG52
        have hsR27 := hsR27.mono hG52
        have hr := hr.mono hG52
        have hs51 := hs51.mono hG52
        have hs56 := hs56.mono hG52
        have lL52 : L52.length = 7 := by rw [eL52]; exact frame_len _ _
        refine apY rfl Fx.se27 Fx.zv5 (.u rfl) (.u rfl) .here hs52.sc (by (try simp only [List.length_append, List.length_cons, List.length_nil, yl_len]); omega) ?_
        intro v53 L53 ov53 eL53
        have lL53 : L53.length = O.length + L52.length := by rw [eL53, List.length_append]
        refine apY rfl Fx.se27 Fx.zv5 (.u rfl) (.u rfl) .here hs56.sc (by (try simp only [List.length_append, List.length_cons, List.length_nil, yl_len]); omega) ?_
        intro v57 L57 ov57 eL57
        have lL57 : L57.length = L53.length + L56.length := by rw [eL57, List.length_append]
        refine asg rfl .no (.u rfl) ?_
        refine .nil ?_
        refine .code ?_
        refine Wk.rg [0, 1, 2, 3] rfl rfl ?_
        refine mv rfl .no (.u rfl) ?_
        refine mv rfl .no (.u rfl) ?_
        refine kD ((min M.length 128)) rfl .no Fx.se27 hr (.u rfl) (.u rfl) (fun _ => by omega) (fun _ => by omega) ?_
        intro h60 L60 eL60 lL60 hs60
        have lL60 := lL60 rfl
        refine asg rfl .no (.u rfl) ?_
        refine .nil ?_
        refine .blk ?_
        refine .code ?_
        refine Wk.rg [0] rfl rfl ?_
        refine asg rfl .no (.u rfl) ?_
        refine .nil ?_
        refine We.lpo (j + 1, h60, L60, v57, L57) ?_ ?_ ?_ ?_ ?_
        · exact (ESub.cons rfl rfl (ESub.cons rfl rfl (ESub.cons rfl (by simp) ESub.nil)))
        · exact (MSub.cons .here rfl (MSub.cons .here rfl (MSub.cons .here rfl MSub.nil)))
        · first | omega | (dsimp only; omega)
        · exact (hGl0).trans hG52
        · refine ⟨?_, ?_, ?_, ?_⟩
          · (try dsimp only) <;> (exact hs60)
          · (try dsimp only) <;> (rw [eL60, eM]; exact drop_step)
          · (try dsimp only) <;> (exact rec_step eO eM eL51 eL56 eL52 eL53 eL57 (kind_full (by omega) (by omega)))
          · (try dsimp only) <;> (first | omega | rfl | assumption | (simp; done))
      · have c3k := c3
        try simp only [decide_eq_true_eq, decide_eq_false_iff_not, Int.not_lt, Int.not_le, gt_iff_lt, ge_iff_le, Bool.or_eq_true, Bool.and_eq_true, Bool.or_eq_false_iff, Bool.and_eq_false_iff, Bool.not_eq_true', Bool.not_eq_false', Int.toNat_natCast, bne_iff_ne, beq_iff_eq, bne_eq_false_iff_eq, beq_eq_false_iff_ne, ne_eq] at c3
        refine .seq ?_
        refine Wk.rg [0, 1] rfl rfl ?_
        refine mv rfl .no (.u rfl) ?_
        refine asg rfl .no (.u rfl) ?_
        refine .nil ?_
        refine .code ?_
        refine .cond rfl (fun c4 => ?_) (fun c4 => ?_)
        · have c4k := c4
          try simp only [decide_eq_true_eq, decide_eq_false_iff_not, Int.not_lt, Int.not_le, gt_iff_lt, ge_iff_le, Bool.or_eq_true, Bool.and_eq_true, Bool.or_eq_false_iff, Bool.and_eq_false_iff, Bool.not_eq_true', Bool.not_eq_false', Int.toNat_natCast, bne_iff_ne, beq_iff_eq, bne_eq_false_iff_eq, beq_eq_false_iff_ne, ne_eq] at c4
          refine Wk.rg [0] rfl rfl ?_
          refine asg rfl .no (.u rfl) ?_
          refine .nil ?_
          refine .blk ?_
          refine .code ?_
          refine .seq ?_
          refine Wk.draw (mc := ⟨false, false⟩) [0, 1, 2, 3, 4, 7, 8, 9, 5, 6, 10, 11] Fx.mix (by kernel_rfl) ?_
          refine mv rfl .no (.u rfl) ?_
          refine mv rfl .no (.u rfl) ?_
          refine mv rfl .no (.u rfl) ?_
          refine mv rfl .no (.u rfl) ?_
          refine kE ((min M.length 128)) rfl .no Fx.se27 hr (.u rfl) (.u rfl) (fun _ => by omega) (fun _ => by omega) ?_
          intro h51 L51 eL51 lL51 hs51
          have lL51 := lL51 rfl
          refine mv rfl .no (.u rfl) ?_
          refine mv rfl .no (.u rfl) ?_
          refine kE ((min M.length 128)) rfl .no Fx.se27 hr (.u rfl) (.u rfl) (fun _ => by omega) (fun _ => by omega) ?_
          intro h56 L56 eL56 lL56 hs56
          have lL56 := lL56 rfl
          refine kc rfl Fx.go41 (Eva.cons (.u rfl) (Eva.cons (.u rfl) Eva.nil)) (Ct.frzB (whead_ok 2#8 L51 h51 _ hs51 (by omega))) ?_
          rintro _ G52 μ52 hG52 ⟨h52, L52, eL52, rfl, rfl, hs52⟩
          have hs := hs.mono hG52
          have hK := hK.mono hG52
          have hs25 := hs25.mono hG52
          have hsR27 := hsR27.mono hG52
          have hr := hr.mono hG52
          have hs51 := hs51.mono hG52
          have hs56 := hs56.mono hG52
          have lL52 : L52.length = 7 := by rw [eL52]; exact frame_len _ _
          refine apY rfl Fx.se27 Fx.zv5 (.u rfl) (.u rfl) .here hs52.sc (by (try simp only [List.length_append, List.length_cons, List.length_nil, yl_len]); omega) ?_
          intro v53 L53 ov53 eL53
          have lL53 : L53.length = O.length + L52.length := by rw [eL53, List.length_append]
          refine apY rfl Fx.se27 Fx.zv5 (.u rfl) (.u rfl) .here hs56.sc (by (try simp only [List.length_append, List.length_cons, List.length_nil, yl_len]); omega) ?_
          intro v57 L57 ov57 eL57
          have lL57 : L57.length = L53.length + L56.length := by rw [eL57, List.length_append]
          refine asg rfl .no (.u rfl) ?_
          refine .nil ?_
          refine .code ?_
          refine Wk.rg [0, 1, 2, 3] rfl rfl ?_
          refine mv rfl .no (.u rfl) ?_
          refine mv rfl .no (.u rfl) ?_
          refine kD ((min M.length 128)) rfl .no Fx.se27 hr (.u rfl) (.u rfl) (fun _ => by omega) (fun _ => by omega) ?_
          intro h60 L60 eL60 lL60 hs60
          have lL60 := lL60 rfl
          refine asg rfl .no (.u rfl) ?_
          refine .nil ?_
          refine .blk ?_
          refine .code ?_
          refine Wk.rg [0] rfl rfl ?_
          refine asg rfl .no (.u rfl) ?_
          refine .nil ?_
          refine We.lpo (j + 1, h60, L60, v57, L57) ?_ ?_ ?_ ?_ ?_
          · exact (ESub.cons rfl rfl (ESub.cons rfl rfl (ESub.cons rfl (by simp) ESub.nil)))
          · exact (MSub.cons .here rfl (MSub.cons .here rfl (MSub.cons .here rfl MSub.nil)))
          · first | omega | (dsimp only; omega)
          · exact (hGl0).trans hG52
          · refine ⟨?_, ?_, ?_, ?_⟩
            · (try dsimp only) <;> (exact hs60)
            · (try dsimp only) <;> (rw [eL60, eM]; exact drop_step)
            · (try dsimp only) <;> (exact rec_step eO eM eL51 eL56 eL52 eL53 eL57 (kind_first (by omega) (by omega)))
            · (try dsimp only) <;> (first | omega | rfl | assumption | (simp; done))
        · have c4k := c4
          try simp only [decide_eq_true_eq, decide_eq_false_iff_not, Int.not_lt, Int.not_le, gt_iff_lt, ge_iff_le, Bool.or_eq_true, Bool.and_eq_true, Bool.or_eq_false_iff, Bool.and_eq_false_iff, Bool.not_eq_true', Bool.not_eq_false', Int.toNat_natCast, bne_iff_ne, beq_iff_eq, bne_eq_false_iff_eq, beq_eq_false_iff_ne, ne_eq] at c4
          refine .seq ?_
          refine Wk.rg [0, 1] rfl rfl ?_
          refine mv rfl .no (.u rfl) ?_
          refine asg rfl .no (.u rfl) ?_
          refine .nil ?_
          refine .code ?_
          refine .cond rfl (fun c5 => ?_) (fun c5 => ?_)
          · have c5k := c5
            try simp only [decide_eq_true_eq, decide_eq_false_iff_not, Int.not_lt, Int.not_le, gt_iff_lt, ge_iff_le, Bool.or_eq_true, Bool.and_eq_true, Bool.or_eq_false_iff, Bool.and_eq_false_iff, Bool.not_eq_true', Bool.not_eq_false', Int.toNat_natCast, bne_iff_ne, beq_iff_eq, bne_eq_false_iff_eq, beq_eq_false_iff_ne, ne_eq] at c5
            refine Wk.rg [0] rfl rfl ?_
            refine asg rfl .no (.u rfl) ?_
            refine .nil ?_
            refine .blk ?_
            refine .code ?_
            refine .seq ?_
            refine Wk.draw (mc := ⟨false, false⟩) [0, 1, 2, 3, 4, 7, 8, 9, 5, 6, 10, 11] Fx.mix (by kernel_rfl) ?_
            refine mv rfl .no (.u rfl) ?_
            refine mv rfl .no (.u rfl) ?_
            refine mv rfl .no (.u rfl) ?_
            refine mv rfl .no (.u rfl) ?_
            refine kE ((min M.length 128)) rfl .no Fx.se27 hr (.u rfl) (.u rfl) (fun _ => by omega) (fun _ => by omega) ?_
            intro h51 L51 eL51 lL51 hs51
            have lL51 := lL51 rfl
            refine mv rfl .no (.u rfl) ?_
            refine mv rfl .no (.u rfl) ?_
            refine kE ((min M.length 128)) rfl .no Fx.se27 hr (.u rfl) (.u rfl) (fun _ => by omega) (fun _ => by omega) ?_
            intro h56 L56 eL56 lL56 hs56
            have lL56 := lL56 rfl
            refine kc rfl Fx.go41 (Eva.cons (.u rfl) (Eva.cons (.u rfl) Eva.nil)) (Ct.frzB (whead_ok 4#8 L51 h51 _ hs51 (by omega))) ?_
            rintro _ G52 μ52 hG52 ⟨h52, L52, eL52, rfl, rfl, hs52⟩
            have hs := hs.mono hG52
            have hK := hK.mono hG52
            have hs25 := hs25.mono hG52
            have hsR27 := hsR27.mono hG52
            have hr := hr.mono hG52
            have hs51 := hs51.mono hG52
            have hs56 := hs56.mono hG52
            have lL52 : L52.length = 7 := by rw [eL52]; exact frame_len _ _
            refine apY rfl Fx.se27 Fx.zv5 (.u rfl) (.u rfl) .here hs52.sc (by (try simp only [List.length_append, List.length_cons, List.length_nil, yl_len]); omega) ?_
            intro v53 L53 ov53 eL53
            have lL53 : L53.length = O.length + L52.length := by rw [eL53, List.length_append]
            refine apY rfl Fx.se27 Fx.zv5 (.u rfl) (.u rfl) .here hs56.sc (by (try simp only [List.length_append, List.length_cons, List.length_nil, yl_len]); omega) ?_
            intro v57 L57 ov57 eL57
            have lL57 : L57.length = L53.length + L56.length := by rw [eL57, List.length_append]
            refine asg rfl .no (.u rfl) ?_
            refine .nil ?_
            refine .code ?_
            refine Wk.rg [0, 1, 2, 3] rfl rfl ?_
            refine mv rfl .no (.u rfl) ?_
            refine mv rfl .no (.u rfl) ?_
            refine kD ((min M.length 128)) rfl .no Fx.se27 hr (.u rfl) (.u rfl) (fun _ => by omega) (fun _ => by omega) ?_
            intro h60 L60 eL60 lL60 hs60
            have lL60 := lL60 rfl
            refine asg rfl .no (.u rfl) ?_
            refine .nil ?_
            refine .blk ?_
            refine .code ?_
            refine Wk.rg [0] rfl rfl ?_
            refine asg rfl .no (.u rfl) ?_
            refine .nil ?_
            refine We.lpo (j + 1, h60, L60, v57, L57) ?_ ?_ ?_ ?_ ?_
            · exact (ESub.cons rfl rfl (ESub.cons rfl rfl (ESub.cons rfl (by simp) ESub.nil)))
            · exact (MSub.cons .here rfl (MSub.cons .here rfl (MSub.cons .here rfl MSub.nil)))
            · first | omega | (dsimp only; omega)
            · exact (hGl0).trans hG52
            · refine ⟨?_, ?_, ?_, ?_⟩
              · (try dsimp only) <;> (exact hs60)
              · (try dsimp only) <;> (rw [eL60, eM]; exact drop_step)
              · (try dsimp only) <;> (exact rec_step eO eM eL51 eL56 eL52 eL53 eL57 (kind_last (by omega) (by omega)))
              · (try dsimp only) <;> (first | omega | rfl | assumption | (simp; done))
          · have c5k := c5
            try simp only [decide_eq_true_eq, decide_eq_false_iff_not, Int.not_lt, Int.not_le, gt_iff_lt, ge_iff_le, Bool.or_eq_true, Bool.and_eq_true, Bool.or_eq_false_iff, Bool.and_eq_false_iff, Bool.not_eq_true', Bool.not_eq_false', Int.toNat_natCast, bne_iff_ne, beq_iff_eq, bne_eq_false_iff_eq, beq_eq_false_iff_ne, ne_eq] at c5
            refine .skip ?_
            refine .blk ?_
            refine .code ?_
            refine .seq ?_
            refine Wk.draw (mc := ⟨false, false⟩) [0, 1, 2, 3, 4, 7, 8, 9, 5, 6, 10, 11] Fx.mix (by kernel_rfl) ?_
            refine mv rfl .no (.u rfl) ?_
            refine mv rfl .no (.u rfl) ?_
            refine mv rfl .no (.u rfl) ?_
            refine mv rfl .no (.u rfl) ?_
            refine kE ((min M.length 128)) rfl .no Fx.se27 hr (.u rfl) (.u rfl) (fun _ => by omega) (fun _ => by omega) ?_
            intro h51 L51 eL51 lL51 hs51
            have lL51 := lL51 rfl
            refine mv rfl .no (.u rfl) ?_
            refine mv rfl .no (.u rfl) ?_
            refine kE ((min M.length 128)) rfl .no Fx.se27 hr (.u rfl) (.u rfl) (fun _ => by omega) (fun _ => by omega) ?_
            intro h56 L56 eL56 lL56 hs56
            have lL56 := lL56 rfl
            refine kc rfl Fx.go41 (Eva.cons (.u rfl) (Eva.cons (.u rfl) Eva.nil)) (Ct.frzB (whead_ok 3#8 L51 h51 _ hs51 (by omega))) ?_
            rintro _ G52 μ52 hG52 ⟨h52, L52, eL52, rfl, rfl, hs52⟩
            have hs := hs.mono hG52
            have hK := hK.mono hG52
            have hs25 := hs25.mono hG52
            have hsR27 := hsR27.mono hG52
            have hr := hr.mono hG52
            have hs51 := hs51.mono hG52
            have hs56 := hs56.mono hG52
            have lL52 : L52.length = 7 := by rw [eL52]; exact frame_len _ _
            refine apY rfl Fx.se27 Fx.zv5 (.u rfl) (.u rfl) .here hs52.sc (by (try simp only [List.length_append, List.length_cons, List.length_nil, yl_len]); omega) ?_
            intro v53 L53 ov53 eL53
            have lL53 : L53.length = O.length + L52.length := by rw [eL53, List.length_append]
            refine apY rfl Fx.se27 Fx.zv5 (.u rfl) (.u rfl) .here hs56.sc (by (try simp only [List.length_append, List.length_cons, List.length_nil, yl_len]); omega) ?_
            intro v57 L57 ov57 eL57
            have lL57 : L57.length = L53.length + L56.length := by rw [eL57, List.length_append]
            refine asg rfl .no (.u rfl) ?_
            refine .nil ?_
            refine .code ?_
            refine Wk.rg [0, 1, 2, 3] rfl rfl ?_
            refine mv rfl .no (.u rfl) ?_
            refine mv rfl .no (.u rfl) ?_
            refine kD ((min M.length 128)) rfl .no Fx.se27 hr (.u rfl) (.u rfl) (fun _ => by omega) (fun _ => by omega) ?_
            intro h60 L60 eL60 lL60 hs60
            have lL60 := lL60 rfl
            refine asg rfl .no (.u rfl) ?_
            refine .nil ?_
            refine .blk ?_
            refine .code ?_
            refine Wk.rg [0] rfl rfl ?_
            refine asg rfl .no (.u rfl) ?_
            refine .nil ?_
            refine We.lpo (j + 1, h60, L60, v57, L57) ?_ ?_ ?_ ?_ ?_
            · exact (ESub.cons rfl rfl (ESub.cons rfl rfl (ESub.cons rfl (by simp) ESub.nil)))
            · exact (MSub.cons .here rfl (MSub.cons .here rfl (MSub.cons .here rfl MSub.nil)))
            · first | omega | (dsimp only; omega)
            · exact (hGl0).trans hG52
            · refine ⟨?_, ?_, ?_, ?_⟩
              · (try dsimp only) <;> (exact hs60)
              · (try dsimp only) <;> (rw [eL60, eM]; exact drop_step)
              · (try dsimp only) <;> (exact rec_step eO eM eL51 eL56 eL52 eL53 eL57 (kind_mid (by omega) (by omega)))
              · (try dsimp only) <;> (first | omega | rfl | assumption | (simp; done))
    · have c2k := c2
      try simp only [decide_eq_true_eq, decide_eq_false_iff_not, Int.not_lt, Int.not_le, gt_iff_lt, ge_iff_le, Bool.or_eq_true, Bool.and_eq_true, Bool.or_eq_false_iff, Bool.and_eq_false_iff, Bool.not_eq_true', Bool.not_eq_false', Int.toNat_natCast, bne_iff_ne, beq_iff_eq, bne_eq_false_iff_eq, beq_eq_false_iff_ne, ne_eq] at c2
      refine .exit ?_
      refine .xcode ?_
      refine .xlp ?_
      refine .xblk ?_
      refine .code ?_
      refine .seq ?_
      refine Wk.rg [0, 1, 2] rfl rfl ?_
      refine mv rfl .no (.u rfl) ?_
      refine asg rfl .no (.u rfl) ?_
      refine asg rfl .no (.u rfl) ?_
      refine .nil ?_
      refine .code ?_
      refine .ret ?_
      refine We.fin Tryd.results23 (.tmp rfl (.tmp rfl .nil)) (MSub.cons .here rfl MSub.nil) ?_
      exact ⟨v, O, 0, lay_good (by omega) (by rw [eL27, eL25]) eO (by omega), rfl, rfl⟩

theorem piece_ok (kind : Y) (p : List Y) (h : Sh) (G : PM) (hs : SlR G 1 encY h p) (hl : p.length ≤ 1000000) : Ct Tryd.prog 45 ([V kind, h.val p.length] : List Value).toArray G [] (PR 5 (fun L => L = frameL kind p ++ p)) := by
  refine Ct.of Tryd.func45 rfl Tryd.ntmps45 rfl fun w0 hs0 => ?_
  refine .seq ?_
  refine Wk.rg [0] rfl rfl ?_
  refine asg rfl .no (.u rfl) ?_
  refine .nil ?_
  refine .code ?_
  refine .seq ?_
  refine Wk.rg [0, 1, 2] rfl rfl ?_
  refine mv rfl .no (.u rfl) ?_
  refine Go.Tan.b1 rfl Fx.se27 Fx.zv5 (.u rfl) rfl rfl (by decide) ?_; intro b8
  refine asg rfl .no (.u rfl) ?_
  refine .nil ?_
  refine .code ?_
  refine .seq ?_
  refine wk_br [kind] 1 .here rfl rfl (by decide) ?_
  have lR8 : ([kind] : List Y).length = 1 := rfl
  refine Wk.rg [0, 1, 2, 3] rfl rfl ?_
  refine mv rfl .no (.u rfl) ?_
  refine mv rfl .no (.u rfl) ?_
  refine apY rfl Fx.se27 Fx.zv5 (.u rfl) (.u rfl) .here hs.sc (by (try simp only [List.length_append, List.length_cons, List.length_nil, yl_len]); omega) ?_
  intro v11 L11 ov11 eL11
  have lL11 : L11.length = [kind].length + p.length := by rw [eL11, List.length_append]
  refine asg rfl .no (.u rfl) ?_
  refine .nil ?_
  refine .code ?_
  refine .seq ?_
  refine wk_fb .here (by first | (intro b hb; cases hb; done) | simp [keys, Res.keys]) ?_; intro GfR8 hR8 hleR8 evR8 hsR8; try rw [ evR8]
  have hs := hs.mono hleR8
  refine Wk.rg [0, 1, 2, 3, 4, 5] rfl rfl ?_
  refine mv rfl .no (.u rfl) ?_
  refine kv rfl .no Fx.go65 (Eva.cons (.u rfl) (Eva.cons (.u rfl) Eva.nil)) (fun _ => rcrcMore_ok 0#32 L11 _ _ hsR8 (by omega)) ?_
  refine kv rfl .no Fx.go64 (Eva.cons (.u rfl) Eva.nil) (fun _ => rMask_ok _ _) ?_
  refine cu (k := .u32) rfl .no rfl Fx.cv69_43 (.u rfl) ?_
  refine kc rfl Fx.go36 (Eva.cons (.u rfl) (Eva.cons (.u rfl) Eva.nil)) (Ct.rowc (rFix_ok _ 4 _ (by decide))) ?_
  rintro v16 G16 μ16 hG16 ⟨L16, ov16, eL16, rfl⟩
  have hs := hs.mono hG16
  have hsR8 := hsR8.mono hG16
  refine asg rfl .no (.u rfl) ?_
  refine .nil ?_
  refine .code ?_
  refine .seq ?_
  refine Wk.rg [0, 1, 2, 3, 4, 5, 6] rfl rfl ?_
  refine mv rfl .no (.u rfl) ?_
  refine mv rfl .no (.u rfl) ?_
  refine ln rfl .no Fx.sn27 (.u rfl) ?_
  refine ci rfl .no rfl Fx.cv3_43 (.u rfl) ?_
  refine kc rfl Fx.go36 (Eva.cons (.u rfl) (Eva.cons (.u rfl) Eva.nil)) (Ct.frzB (rFix_ok _ 2 _ (by decide))) ?_
  rintro _ G21 μ21 hG21 ⟨h21, L21, eL21, rfl, rfl, hs21⟩
  have hs := hs.mono hG21
  have hsR8 := hsR8.mono hG21
  have lL16 : L16.length = 4 := by rw [eL16]; exact fix_len _ _
  have lL21 : L21.length = 2 := by rw [eL21]; exact fix_len _ _
  refine apY rfl Fx.se27 Fx.zv5 (.u rfl) (.u rfl) .here hs21.sc (by (try simp only [List.length_append, List.length_cons, List.length_nil, yl_len]); omega) ?_
  intro v22 L22 ov22 eL22
  have lL22 : L22.length = L16.length + L21.length := by rw [eL22, List.length_append]
  refine asg rfl .no (.u rfl) ?_
  refine .nil ?_
  refine .code ?_
  refine .seq ?_
  refine Wk.rg [0, 1, 2, 3] rfl rfl ?_
  refine mv rfl .no (.u rfl) ?_
  refine mv rfl .no (.u rfl) ?_
  refine apY rfl Fx.se27 Fx.zv5 (.u rfl) (.u rfl) .here hsR8.sc (by (try simp only [List.length_append, List.length_cons, List.length_nil, yl_len]); omega) ?_
  intro v25 L25 ov25 eL25
  have lL25 : L25.length = L22.length + L11.length := by rw [eL25, List.length_append]
  refine asg rfl .no (.u rfl) ?_
  refine .nil ?_
  refine .code ?_
  refine .seq ?_
  refine Wk.rg [0, 1] rfl rfl ?_
  refine mv rfl .no (.u rfl) ?_
  refine asg rfl .no (.u rfl) ?_
  refine .nil ?_
  refine .code ?_
  refine .ret ?_
  refine We.fin Tryd.results45 (.tmp rfl .nil) (MSub.cons .here rfl MSub.nil) ?_
  exact ⟨L25, by rw [eL25, eL22, eL21, eL16, eL11]; exact frame_app _ _, rfl⟩

theorem rwLay_ok (root : Nat → Y) (h : Hd) (n : BitVec 64) (p : List Y) (hp : Sh) (G : PM) (hs : SlR G 1 encY hp p) (hR : RdNP G 0 0 (wa 64 kW)) : Ct Tryd.prog 24 ([.agg (ba 32 root).toArray, .agg ([V h.kind, V h.level, uv .u64 h.gen, uv .u64 h.epoch, uv .u64 h.num] : List Value).toArray, uv .u64 n, hp.val p.length] : List Value).toArray G [] (fun _ μ' u => ∃ v L e, (L, e) = layP root h n p ∧ μ' = [rB v 5 L] ∧ u = .tuple #[v, .int .i64 e]) := by
  refine Ct.of Tryd.func24 rfl Tryd.ntmps24 rfl fun w0 hs0 => ?_
  refine .seq ?_
  refine Wk.rg [0, 1, 2, 3] rfl rfl ?_
  refine bx rfl (.u rfl) rfl ?_; intro b4
  refine bx rfl (.u rfl) rfl ?_; intro b5
  refine asg rfl .no (.u rfl) ?_
  refine asg rfl .no (.u rfl) ?_
  refine .nil ?_
  refine .code ?_
  refine .seq ?_
  refine .seq ?_
  refine Wk.rg [0, 1, 2] rfl rfl ?_
  refine mv rfl .no (.u rfl) ?_
  refine ln rfl .no Fx.sn27 (.u rfl) ?_
  refine cp rfl .no (.u rfl) (.u rfl) rfl ?_
  refine .nil ?_
  refine .code ?_
  refine .cond rfl (fun c1 => ?_) (fun c1 => ?_)
  · have c1k := c1
    try simp only [decide_eq_true_eq, decide_eq_false_iff_not, Int.not_lt, Int.not_le, gt_iff_lt, ge_iff_le, Bool.or_eq_true, Bool.and_eq_true, Bool.or_eq_false_iff, Bool.and_eq_false_iff, Bool.not_eq_true', Bool.not_eq_false', Int.toNat_natCast, bne_iff_ne, beq_iff_eq, bne_eq_false_iff_eq, beq_eq_false_iff_ne, ne_eq] at c1
    refine .seq ?_
    refine Wk.rg [0, 1] rfl rfl ?_
    refine asg rfl .no (.u rfl) ?_
    refine asg rfl .no (.u rfl) ?_
    refine .nil ?_
    refine .code ?_
    refine .ret ?_
    refine we_nilB 5 ?_
    refine We.fin Tryd.results24 (.tmp rfl (.tmp rfl .nil)) (MSub.cons .here rfl MSub.nil) ?_
    exact ⟨_, [], 4, lay_long (by omega), rfl, rfl⟩
  · have c1k := c1
    try simp only [decide_eq_true_eq, decide_eq_false_iff_not, Int.not_lt, Int.not_le, gt_iff_lt, ge_iff_le, Bool.or_eq_true, Bool.and_eq_true, Bool.or_eq_false_iff, Bool.and_eq_false_iff, Bool.not_eq_true', Bool.not_eq_false', Int.toNat_natCast, bne_iff_ne, beq_iff_eq, bne_eq_false_iff_eq, beq_eq_false_iff_ne, ne_eq] at c1
    refine .skip ?_
    refine .code ?_
    refine .seq ?_
    refine Wk.draw (mc := ⟨false, false⟩) [0, 1, 3, 5, 7, 2, 4, 6, 8, 9] Fx.mix (by kernel_rfl) ?_
    refine lA rfl .no Fx.ag42 (.u rfl) (fun _ => RdN.own (.there .here)) (fun _ => (by first | exact (key_len _ _).trans (key_len _ _).symm | exact key_len _ _ | exact ba_len _ _ | rfl)) ?_
    refine lA rfl .no Fx.ag45 (.u rfl) (fun _ => RdN.own .here) (fun _ => (by first | exact (key_len _ _).trans (key_len _ _).symm | exact key_len _ _ | exact ba_len _ _ | rfl)) ?_
    refine mv rfl .no (.u rfl) ?_
    refine lA rfl .no Fx.ag45 (.u rfl) (fun _ => RdN.own .here) (fun _ => (by first | exact (key_len _ _).trans (key_len _ _).symm | exact key_len _ _ | exact ba_len _ _ | rfl)) ?_
    refine mv rfl .no (.u rfl) ?_
    refine kv rfl .no Fx.go42 (Eva.cons (.u rfl) (Eva.cons (.u rfl) Eva.nil)) (fun _ => rKeyOf_ok root h _ hR) ?_
    refine kv rfl .no Fx.go43 (Eva.cons (.u rfl) Eva.nil) (fun _ => rNonce_ok _ _) ?_
    refine kc rfl Fx.go44 (Eva.cons (.u rfl) Eva.nil) (Ct.frzB (rnLay_ok h _)) ?_
    rintro _ G24 μ24 hG24 ⟨h24, L24, eL24, rfl, rfl, hs24⟩
    have hs := hs.mono hG24
    have hR := hR.mono hG24
    refine kc rfl Fx.go18 (Eva.cons (.u rfl) (Eva.cons (.u rfl) (Eva.cons (.u rfl) (Eva.cons (.u rfl) Eva.nil)))) (Ct.rowc (rSeal_ok (keyEnc root (headL h)) (keyMac root (headL h)) (nonceF n) L24 h24 p hp _ hs24 hs hR (by rw [eL24, head_len]; decide) (by omega))) ?_
    rintro v26 G26 μ26 hG26 ⟨L26, ov26, eL26, rfl⟩
    have hs := hs.mono hG26
    have hR := hR.mono hG26
    have hs24 := hs24.mono hG26
    refine asg rfl .no (.u rfl) ?_
    refine .nil ?_
    have lL26 : L26.length = p.length + 16 := by rw [eL26, seal_len]
    refine .code ?_
    refine .seq ?_
    refine wk_fb .here (by first | (intro b hb; cases hb; done) | simp [keys, Res.keys]) ?_; intro GfR26 hR26 hleR26 evR26 hsR26; subst evR26
    have hs := hs.mono hleR26
    have hR := hR.mono hleR26
    have hs24 := hs24.mono hleR26
    refine Wk.rg [0] rfl rfl ?_
    refine asg rfl .no (.u rfl) ?_
    refine .nil ?_
    refine .code ?_
    refine .seq ?_
    refine .seq ?_
    refine wk_nilB 5 ?_
    refine Wk.rg [0] rfl rfl ?_
    refine asg rfl .no (.u rfl) ?_
    refine .nil ?_
    refine .code ?_
    refine .block ?_
    refine Wk.lop (α := Nat × Value × List Y) (fun gh => [(11, true, gh.2.1), (12, true, .int .i64 ((128 * gh.1 : Nat) : Int))]) (fun gh => [rB gh.2.1 5 gh.2.2])
      (fun gh Gl => (gh.2.2 = outL L26 gh.1) ∧ (128 * gh.1 ≤ L26.length + 127)) (fun gh => L26.length + 127 - 128 * gh.1) (0, .slice none 0 0, []) [(10, true, _)] [_, _]
      (ESub.cons rfl rfl (ESub.cons rfl (by first | rfl | exact evi (by omega)) (ESub.cons rfl rfl ESub.nil)))
      (MSub.cons .here rfl (MSub.cons .here rfl (MSub.cons .here rfl MSub.nil))) ?_ ?_
    · refine ⟨?_, ?_⟩
      · (try dsimp only) <;> (rfl)
      · (try dsimp only) <;> (first | omega | rfl | assumption | (simp; done))
    intro gh N0 Gl0 hN0 hGl0 hF0
    obtain ⟨j, v, O⟩ := gh; dsimp only at hF0 hN0 ⊢
    obtain ⟨eO, hj⟩ := hF0
    have hs := hs.mono hGl0
    have hR := hR.mono hGl0
    have hs24 := hs24.mono hGl0
    have hsR26 := hsR26.mono hGl0
    have lO := out_len L26 j
    rw [← eO] at lO
    refine .seq ?_
    refine .seq ?_
    refine Wk.rg [0, 1, 2, 3] rfl rfl ?_
    refine mv rfl .no (.u rfl) ?_
    refine mv rfl .no (.u rfl) ?_
    refine ln rfl .no Fx.sn27 (.u rfl) ?_
    refine cp rfl .no (.u rfl) (.u rfl) rfl ?_
    refine .nil ?_
    refine .code ?_
    refine .cond rfl (fun c2 => ?_) (fun c2 => ?_)
    · have c2k := c2
      try simp only [decide_eq_true_eq, decide_eq_false_iff_not, Int.not_lt, Int.not_le, gt_iff_lt, ge_iff_le, Bool.or_eq_true, Bool.and_eq_true, Bool.or_eq_false_iff, Bool.and_eq_false_iff, Bool.not_eq_true', Bool.not_eq_false', Int.toNat_natCast, bne_iff_ne, beq_iff_eq, bne_eq_false_iff_eq, beq_eq_false_iff_ne, ne_eq] at c2
      refine .skip ?_
      refine .code ?_
      refine .seq ?_
      refine .block ?_
      refine .seq ?_
      refine Wk.rg [0, 1, 2, 3, 4, 5] rfl rfl ?_
      refine mv rfl .no (.u rfl) ?_
      refine ln rfl .no Fx.sn27 (.u rfl) ?_
      refine mv rfl .no (.u rfl) ?_
      refine arn (((((128 * j : Nat)) + 128) : Nat) : Int) rfl .no (.u rfl) (.u rfl) rfl (fun _ => by omega) (fun _ => wrap_i64 (by omega) (by omega)) ?_
      refine mIn (L26.length) ((((128 * j : Nat)) + 128)) rfl .no (.u rfl) (.u rfl) (fun _ => by omega) (fun _ => by omega) ?_
      refine asg rfl .no (.u rfl) ?_
      refine .nil ?_
      refine .code ?_
      refine .seq ?_
      refine Wk.rg [0] rfl rfl ?_
      refine asg rfl .no (.u rfl) ?_
      refine .nil ?_
      refine .code ?_
      refine .seq ?_
      refine .block ?_
      refine .seq ?_
      refine Wk.rg [0, 1, 2, 3, 4, 5, 6, 7, 8] rfl rfl ?_
      refine mv rfl .no (.u rfl) ?_
      refine cp rfl .no (.u rfl) (.u rfl) rfl ?_
      refine mv rfl .no (.u rfl) ?_
      refine mv rfl (.t rfl rfl) (.u rfl) ?_
      refine mv rfl (.t rfl rfl) (.u rfl) ?_
      refine ln rfl (.t rfl rfl) Fx.sn27 (.s rfl) ?_
      refine cp rfl (.t rfl rfl) (.s rfl) (.s rfl) rfl ?_
      refine pkA rfl .no (.u rfl) (.s rfl) ?_
      refine asg rfl .no (.u rfl) ?_
      refine .nil ?_
      refine .code ?_
      refine .cond rfl (fun c3 => ?_) (fun c3 => ?_)
      · have c3k := c3
        try simp only [decide_eq_true_eq, decide_eq_false_iff_not, Int.not_lt, Int.not_le, gt_iff_lt, ge_iff_le, Bool.or_eq_true, Bool.and_eq_true, Bool.or_eq_false_iff, Bool.and_eq_false_iff, Bool.not_eq_true', Bool.not_eq_false', Int.toNat_natCast, bne_iff_ne, beq_iff_eq, bne_eq_false_iff_eq, beq_eq_false_iff_ne, ne_eq] at c3
        refine Wk.rg [0] rfl rfl ?_
        refine asg rfl .no (.u rfl) ?_
        refine .nil ?_
        refine .blk ?_
        refine .code ?_
        refine Wk.rg [0, 1, 2, 3, 4, 5, 6, 7, 8] rfl rfl ?_
        refine mv rfl .no (.u rfl) ?_
        refine mv rfl .no (.u rfl) ?_
        refine mv rfl .no (.u rfl) ?_
        refine mv rfl .no (.u rfl) ?_
        refine mv rfl .no (.u rfl) ?_
        refine kS (((128 * j : Nat))) ((min L26.length (((128 * j : Nat)) + 128))) rfl .no Fx.se27 hsR26 (.u rfl) (.u rfl) (.u rfl) (fun _ => by omega) (fun _ => by omega) (fun _ => by omega) (fun _ => by omega) ?_
        intro h60 L60 eL60 lL60 hs60
        have lL60 := lL60 rfl
        refine kc rfl Fx.go45 (Eva.cons (.u rfl) (Eva.cons (.u rfl) Eva.nil)) (Ct.frzB (piece_ok 1#8 L60 h60 _ hs60 (by omega))) ?_
        rintro _ G61 μ61 hG61 ⟨h61, L61, eL61, rfl, rfl, hs61⟩
        have hs := hs.mono hG61
        have hR := hR.mono hG61
        have hs24 := hs24.mono hG61
        have hsR26 := hsR26.mono hG61
        have hs60 := hs60.mono hG61
        have lL61 : L61.length = 7 + L60.length := by rw [eL61, List.length_append, frame_len]
        refine apY rfl Fx.se27 Fx.zv5 (.u rfl) (.u rfl) .here hs61.sc (by (try simp only [List.length_append, List.length_cons, List.length_nil, yl_len]); omega) ?_
        intro v62 L62 ov62 eL62
        have lL62 : L62.length = O.length + L61.length := by rw [eL62, List.length_append]
        refine asg rfl .no (.u rfl) ?_
        refine .nil ?_
        refine .blk ?_
        refine .code ?_
        refine Wk.rg [0, 1, 2] rfl rfl ?_
        refine mv rfl .no (.u rfl) ?_
        refine arn (((((128 * j : Nat)) + 128) : Nat) : Int) rfl .no (.u rfl) (.u rfl) rfl (fun _ => by omega) (fun _ => wrap_i64 (by omega) (by omega)) ?_
        refine asg rfl .no (.u rfl) ?_
        refine .nil ?_
        refine We.lpo (j + 1, v62, L62) ?_ ?_ ?_ ?_ ?_
        · exact (ESub.cons rfl rfl (ESub.cons rfl (by first | rfl | exact evi (by omega)) (ESub.cons rfl rfl ESub.nil)))
        · exact (MSub.cons .here rfl (MSub.cons .here rfl (MSub.cons .here rfl MSub.nil)))
        · first | omega | (dsimp only; omega)
        · exact (hGl0).trans hG61
        · refine ⟨?_, ?_⟩
          · (try dsimp only) <;> (exact rrec_step eO eL60 eL61 eL62 (kind_full (by omega) (by omega)))
          · (try dsimp only) <;> (first | omega | rfl | assumption | (simp; done))
      · have c3k := c3
        try simp only [decide_eq_true_eq, decide_eq_false_iff_not, Int.not_lt, Int.not_le, gt_iff_lt, ge_iff_le, Bool.or_eq_true, Bool.and_eq_true, Bool.or_eq_false_iff, Bool.and_eq_false_iff, Bool.not_eq_true', Bool.not_eq_false', Int.toNat_natCast, bne_iff_ne, beq_iff_eq, bne_eq_false_iff_eq, beq_eq_false_iff_ne, ne_eq] at c3
        refine .seq ?_
        refine Wk.rg [0, 1, 2] rfl rfl ?_
        refine mv rfl .no (.u rfl) ?_
        refine cp rfl .no (.u rfl) (.u rfl) rfl ?_
        refine asg rfl .no (.u rfl) ?_
        refine .nil ?_
        refine .code ?_
        refine .cond rfl (fun c4 => ?_) (fun c4 => ?_)
        · have c4k := c4
          try simp only [decide_eq_true_eq, decide_eq_false_iff_not, Int.not_lt, Int.not_le, gt_iff_lt, ge_iff_le, Bool.or_eq_true, Bool.and_eq_true, Bool.or_eq_false_iff, Bool.and_eq_false_iff, Bool.not_eq_true', Bool.not_eq_false', Int.toNat_natCast, bne_iff_ne, beq_iff_eq, bne_eq_false_iff_eq, beq_eq_false_iff_ne, ne_eq] at c4
          refine Wk.rg [0] rfl rfl ?_
          refine asg rfl .no (.u rfl) ?_
          refine .nil ?_
          refine .blk ?_
          refine .code ?_
          refine Wk.rg [0, 1, 2, 3, 4, 5, 6, 7, 8] rfl rfl ?_
          refine mv rfl .no (.u rfl) ?_
          refine mv rfl .no (.u rfl) ?_
          refine mv rfl .no (.u rfl) ?_
          refine mv rfl .no (.u rfl) ?_
          refine mv rfl .no (.u rfl) ?_
          refine kS (((128 * j : Nat))) ((min L26.length (((128 * j : Nat)) + 128))) rfl .no Fx.se27 hsR26 (.u rfl) (.u rfl) (.u rfl) (fun _ => by omega) (fun _ => by omega) (fun _ => by omega) (fun _ => by omega) ?_
          intro h60 L60 eL60 lL60 hs60
          have lL60 := lL60 rfl
          refine kc rfl Fx.go45 (Eva.cons (.u rfl) (Eva.cons (.u rfl) Eva.nil)) (Ct.frzB (piece_ok 2#8 L60 h60 _ hs60 (by omega))) ?_
          rintro _ G61 μ61 hG61 ⟨h61, L61, eL61, rfl, rfl, hs61⟩
          have hs := hs.mono hG61
          have hR := hR.mono hG61
          have hs24 := hs24.mono hG61
          have hsR26 := hsR26.mono hG61
          have hs60 := hs60.mono hG61
          have lL61 : L61.length = 7 + L60.length := by rw [eL61, List.length_append, frame_len]
          refine apY rfl Fx.se27 Fx.zv5 (.u rfl) (.u rfl) .here hs61.sc (by (try simp only [List.length_append, List.length_cons, List.length_nil, yl_len]); omega) ?_
          intro v62 L62 ov62 eL62
          have lL62 : L62.length = O.length + L61.length := by rw [eL62, List.length_append]
          refine asg rfl .no (.u rfl) ?_
          refine .nil ?_
          refine .blk ?_
          refine .code ?_
          refine Wk.rg [0, 1, 2] rfl rfl ?_
          refine mv rfl .no (.u rfl) ?_
          refine arn (((((128 * j : Nat)) + 128) : Nat) : Int) rfl .no (.u rfl) (.u rfl) rfl (fun _ => by omega) (fun _ => wrap_i64 (by omega) (by omega)) ?_
          refine asg rfl .no (.u rfl) ?_
          refine .nil ?_
          refine We.lpo (j + 1, v62, L62) ?_ ?_ ?_ ?_ ?_
          · exact (ESub.cons rfl rfl (ESub.cons rfl (by first | rfl | exact evi (by omega)) (ESub.cons rfl rfl ESub.nil)))
          · exact (MSub.cons .here rfl (MSub.cons .here rfl (MSub.cons .here rfl MSub.nil)))
          · first | omega | (dsimp only; omega)
          · exact (hGl0).trans hG61
          · refine ⟨?_, ?_⟩
            · (try dsimp only) <;> (exact rrec_step eO eL60 eL61 eL62 (kind_first (by omega) (by omega)))
            · (try dsimp only) <;> (first | omega | rfl | assumption | (simp; done))
        · have c4k := c4
          try simp only [decide_eq_true_eq, decide_eq_false_iff_not, Int.not_lt, Int.not_le, gt_iff_lt, ge_iff_le, Bool.or_eq_true, Bool.and_eq_true, Bool.or_eq_false_iff, Bool.and_eq_false_iff, Bool.not_eq_true', Bool.not_eq_false', Int.toNat_natCast, bne_iff_ne, beq_iff_eq, bne_eq_false_iff_eq, beq_eq_false_iff_ne, ne_eq] at c4
          refine .seq ?_
          refine Wk.rg [0, 1, 2, 3, 4] rfl rfl ?_
          refine mv rfl .no (.u rfl) ?_
          refine mv rfl .no (.u rfl) ?_
          refine ln rfl .no Fx.sn27 (.u rfl) ?_
          refine cp rfl .no (.u rfl) (.u rfl) rfl ?_
          refine asg rfl .no (.u rfl) ?_
          refine .nil ?_
          refine .code ?_
          refine .cond rfl (fun c5 => ?_) (fun c5 => ?_)
          · have c5k := c5
            try simp only [decide_eq_true_eq, decide_eq_false_iff_not, Int.not_lt, Int.not_le, gt_iff_lt, ge_iff_le, Bool.or_eq_true, Bool.and_eq_true, Bool.or_eq_false_iff, Bool.and_eq_false_iff, Bool.not_eq_true', Bool.not_eq_false', Int.toNat_natCast, bne_iff_ne, beq_iff_eq, bne_eq_false_iff_eq, beq_eq_false_iff_ne, ne_eq] at c5
            refine Wk.rg [0] rfl rfl ?_
            refine asg rfl .no (.u rfl) ?_
            refine .nil ?_
            refine .blk ?_
            refine .code ?_
            refine Wk.rg [0, 1, 2, 3, 4, 5, 6, 7, 8] rfl rfl ?_
            refine mv rfl .no (.u rfl) ?_
            refine mv rfl .no (.u rfl) ?_
            refine mv rfl .no (.u rfl) ?_
            refine mv rfl .no (.u rfl) ?_
            refine mv rfl .no (.u rfl) ?_
            refine kS (((128 * j : Nat))) ((min L26.length (((128 * j : Nat)) + 128))) rfl .no Fx.se27 hsR26 (.u rfl) (.u rfl) (.u rfl) (fun _ => by omega) (fun _ => by omega) (fun _ => by omega) (fun _ => by omega) ?_
            intro h60 L60 eL60 lL60 hs60
            have lL60 := lL60 rfl
            refine kc rfl Fx.go45 (Eva.cons (.u rfl) (Eva.cons (.u rfl) Eva.nil)) (Ct.frzB (piece_ok 4#8 L60 h60 _ hs60 (by omega))) ?_
            rintro _ G61 μ61 hG61 ⟨h61, L61, eL61, rfl, rfl, hs61⟩
            have hs := hs.mono hG61
            have hR := hR.mono hG61
            have hs24 := hs24.mono hG61
            have hsR26 := hsR26.mono hG61
            have hs60 := hs60.mono hG61
            have lL61 : L61.length = 7 + L60.length := by rw [eL61, List.length_append, frame_len]
            refine apY rfl Fx.se27 Fx.zv5 (.u rfl) (.u rfl) .here hs61.sc (by (try simp only [List.length_append, List.length_cons, List.length_nil, yl_len]); omega) ?_
            intro v62 L62 ov62 eL62
            have lL62 : L62.length = O.length + L61.length := by rw [eL62, List.length_append]
            refine asg rfl .no (.u rfl) ?_
            refine .nil ?_
            refine .blk ?_
            refine .code ?_
            refine Wk.rg [0, 1, 2] rfl rfl ?_
            refine mv rfl .no (.u rfl) ?_
            refine arn (((((128 * j : Nat)) + 128) : Nat) : Int) rfl .no (.u rfl) (.u rfl) rfl (fun _ => by omega) (fun _ => wrap_i64 (by omega) (by omega)) ?_
            refine asg rfl .no (.u rfl) ?_
            refine .nil ?_
            refine We.lpo (j + 1, v62, L62) ?_ ?_ ?_ ?_ ?_
            · exact (ESub.cons rfl rfl (ESub.cons rfl (by first | rfl | exact evi (by omega)) (ESub.cons rfl rfl ESub.nil)))
            · exact (MSub.cons .here rfl (MSub.cons .here rfl (MSub.cons .here rfl MSub.nil)))
            · first | omega | (dsimp only; omega)
            · exact (hGl0).trans hG61
            · refine ⟨?_, ?_⟩
              · (try dsimp only) <;> (exact rrec_step eO eL60 eL61 eL62 (kind_last (by omega) (by omega)))
              · (try dsimp only) <;> (first | omega | rfl | assumption | (simp; done))
          · have c5k := c5
            try simp only [decide_eq_true_eq, decide_eq_false_iff_not, Int.not_lt, Int.not_le, gt_iff_lt, ge_iff_le, Bool.or_eq_true, Bool.and_eq_true, Bool.or_eq_false_iff, Bool.and_eq_false_iff, Bool.not_eq_true', Bool.not_eq_false', Int.toNat_natCast, bne_iff_ne, beq_iff_eq, bne_eq_false_iff_eq, beq_eq_false_iff_ne, ne_eq] at c5
            refine .skip ?_
            refine .blk ?_
            refine .code ?_
            refine Wk.rg [0, 1, 2, 3, 4, 5, 6, 7, 8] rfl rfl ?_
            refine mv rfl .no (.u rfl) ?_
            refine mv rfl .no (.u rfl) ?_
            refine mv rfl .no (.u rfl) ?_
            refine mv rfl .no (.u rfl) ?_
            refine mv rfl .no (.u rfl) ?_
            refine kS (((128 * j : Nat))) ((min L26.length (((128 * j : Nat)) + 128))) rfl .no Fx.se27 hsR26 (.u rfl) (.u rfl) (.u rfl) (fun _ => by omega) (fun _ => by omega) (fun _ => by omega) (fun _ => by omega) ?_
            intro h60 L60 eL60 lL60 hs60
            have lL60 := lL60 rfl
            refine kc rfl Fx.go45 (Eva.cons (.u rfl) (Eva.cons (.u rfl) Eva.nil)) (Ct.frzB (piece_ok 3#8 L60 h60 _ hs60 (by omega))) ?_
            rintro _ G61 μ61 hG61 ⟨h61, L61, eL61, rfl, rfl, hs61⟩
            have hs := hs.mono hG61
            have hR := hR.mono hG61
            have hs24 := hs24.mono hG61
            have hsR26 := hsR26.mono hG61
            have hs60 := hs60.mono hG61
            have lL61 : L61.length = 7 + L60.length := by rw [eL61, List.length_append, frame_len]
            refine apY rfl Fx.se27 Fx.zv5 (.u rfl) (.u rfl) .here hs61.sc (by (try simp only [List.length_append, List.length_cons, List.length_nil, yl_len]); omega) ?_
            intro v62 L62 ov62 eL62
            have lL62 : L62.length = O.length + L61.length := by rw [eL62, List.length_append]
            refine asg rfl .no (.u rfl) ?_
            refine .nil ?_
            refine .blk ?_
            refine .code ?_
            refine Wk.rg [0, 1, 2] rfl rfl ?_
            refine mv rfl .no (.u rfl) ?_
            refine arn (((((128 * j : Nat)) + 128) : Nat) : Int) rfl .no (.u rfl) (.u rfl) rfl (fun _ => by omega) (fun _ => wrap_i64 (by omega) (by omega)) ?_
            refine asg rfl .no (.u rfl) ?_
            refine .nil ?_
            refine We.lpo (j + 1, v62, L62) ?_ ?_ ?_ ?_ ?_
            · exact (ESub.cons rfl rfl (ESub.cons rfl (by first | rfl | exact evi (by omega)) (ESub.cons rfl rfl ESub.nil)))
            · exact (MSub.cons .here rfl (MSub.cons .here rfl (MSub.cons .here rfl MSub.nil)))
            · first | omega | (dsimp only; omega)
            · exact (hGl0).trans hG61
            · refine ⟨?_, ?_⟩
              · (try dsimp only) <;> (exact rrec_step eO eL60 eL61 eL62 (kind_mid (by omega) (by omega)))
              · (try dsimp only) <;> (first | omega | rfl | assumption | (simp; done))
    · have c2k := c2
      try simp only [decide_eq_true_eq, decide_eq_false_iff_not, Int.not_lt, Int.not_le, gt_iff_lt, ge_iff_le, Bool.or_eq_true, Bool.and_eq_true, Bool.or_eq_false_iff, Bool.and_eq_false_iff, Bool.not_eq_true', Bool.not_eq_false', Int.toNat_natCast, bne_iff_ne, beq_iff_eq, bne_eq_false_iff_eq, beq_eq_false_iff_ne, ne_eq] at c2
      refine .exit ?_
      refine .xcode ?_
      refine .xlp ?_
      refine .xblk ?_
      refine .code ?_
      refine .seq ?_
      refine Wk.rg [0, 1, 2] rfl rfl ?_
      refine mv rfl .no (.u rfl) ?_
      refine asg rfl .no (.u rfl) ?_
      refine asg rfl .no (.u rfl) ?_
      refine .nil ?_
      refine .code ?_
      refine .ret ?_
      refine We.fin Tryd.results24 (.tmp rfl (.tmp rfl .nil)) (MSub.cons .here rfl MSub.nil) ?_
      exact ⟨v, O, 0, lay_good (by omega) (by rw [eL26, eL24]) eO (by omega), rfl, rfl⟩

end Go.Proofs.YtoogjfldgeiapaaDoor
