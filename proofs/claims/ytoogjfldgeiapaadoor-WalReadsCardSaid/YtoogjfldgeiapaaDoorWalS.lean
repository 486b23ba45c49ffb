/- Contracts of functions, walked. -/
import Derived.Test.YtoogjfldgeiapaaDoorWalR
namespace Go.Proofs.YtoogjfldgeiapaaDoor
set_option linter.unusedSimpArgs false
set_option linter.unusedVariables false
open Go.Tan Go.RowKit

namespace Fx
theorem zr24 : zrL Tryd.prog 24 = some (ba 32 (fun _ => 0#8) ++ ba 32 (fun _ => 0#8)) := by kernel_rfl
theorem go78 : goFn Tryd.prog 78 = true := by kernel_rfl
theorem go79 : goFn Tryd.prog 79 = true := by kernel_rfl
theorem bp24_0_1 : bPl Tryd.prog 24 [0, 1] = some (ba 32 (fun _ => 0#8) ++ ba 32 (fun _ => 0#8), [(0, 32), (32, 32)]) := by kernel_rfl
theorem sz24 : szT Tryd.prog 24 = some 64 := by kernel_rfl
theorem ag45 : aggN Tryd.prog 45 = some (some 5) := by kernel_rfl
theorem go40 : goFn Tryd.prog 40 = true := by kernel_rfl
theorem go60 : goFn Tryd.prog 60 = true := by kernel_rfl
theorem cv3_5 : cvK Tryd.prog 3 5 = some .u8 := by kernel_rfl
theorem go82 : goFn Tryd.prog 82 = true := by kernel_rfl
theorem go44 : goFn Tryd.prog 44 = true := by kernel_rfl
theorem go63 : goFn Tryd.prog 63 = true := by kernel_rfl
end Fx
theorem Derive_ok (root : Nat → Y) (use : List Y) (hu : Sh) (G : PM) (hsu : SlR G 1 encY hu use) (hK : RdNP G 1 0 (wa 64 kW)) (hl : use.length ≤ 1000000) : Ct Tryd.prog 60 ([.agg (ba 32 root).toArray, hu.val use.length] : List Value).toArray G [] (fun _ μ' u => μ' = [] ∧ u = .agg (ba 32 (keyEnc root use) ++ ba 32 (keyMac root use)).toArray) := by
  refine Ct.of Tryd.func60 rfl Tryd.ntmps60 rfl fun w0 hs0 => ?_
  refine .seq ?_
  refine Wk.rg [0, 1] rfl rfl ?_
  refine bx rfl (.u rfl) rfl ?_; intro b2
  refine al rfl Fx.zr24 ?_; intro b4
  refine .nil ?_
  refine .code ?_
  refine .seq ?_
  refine wk_fz (.there .here) (by intro b hb; cases hb) ?_; intro Gfb2 hleb2 hbb2
  have hsu := hsu.mono hleb2
  have hK := hK.mono hleb2
  refine Wk.rg [0, 1, 2, 3, 4, 5] rfl rfl ?_
  refine Go.Tan.bN rfl Fx.se27 Fx.zv5 (Evp.cons (.u rfl) (Evp.cons (.u rfl) (Evp.cons (.u rfl) (Evp.cons (.u rfl) (Evp.cons (.u rfl) (Evp.cons (.u rfl) (Evp.cons (.u rfl) (Evp.cons (.u rfl) Evp.nil)))))))) rfl (by decide) (by simp [Value.oneCell', Sh.val]) ?_; intro b8
  refine mkS saltL rfl rfl Fx.cst27 (.u rfl) .here rfl rfl (by decide) ?_; intro G9 hG9 hs9
  have hsu := hsu.mono hG9
  have hK := hK.mono hG9
  have hbb2 := hbb2.mono hG9
  refine kA rfl .no Fx.ar42 (.u rfl) hbb2 (by first | exact ba_all | exact app_l | exact app_r) ?_; intro h10 L10 eL10 lL10 hs10
  refine kv rfl .no Fx.go78 (Eva.cons (.u rfl) (Eva.cons (.u rfl) Eva.nil)) (fun _ => Extract_ok saltL _ L10 h10 _ hs9 hs10 hK (by decide) (by omega)) ?_
  refine al rfl Fx.zr42 ?_; intro b5
  refine sw rfl (.u rfl) (.u rfl) rfl Fx.sz42 .here (by first | exact (ba_len _ _).trans (ba_len _ _).symm | exact (wa_len _ _).trans (wa_len _ _).symm | exact ba_len _ _ | exact wa_len _ _ | rfl | (simp only [wa_len, ba_len, List.length_append, List.length_cons, List.length_nil])) (by first | exact ba_one _ _ | exact wa_one _ _ | exact one_V _ | decide | exact one_app (wa_one _ _) (by simp [Value.oneCell'])) ?_
  refine .nil ?_
  refine .code ?_
  refine .seq ?_
  refine wk_fz .here (by intro b hb; cases hb) ?_; intro Gfb5 hleb5 hbb5
  have hsu := hsu.mono hleb5
  have hK := hK.mono hleb5
  have hbb2 := hbb2.mono hleb5
  have hs9 := hs9.mono hleb5
  have hs10 := hs10.mono hleb5
  refine Wk.rg [0, 1, 2, 3, 4, 5, 6, 7] rfl rfl ?_
  refine kA rfl .no Fx.ar42 (.u rfl) hbb5 (by first | exact ba_all | exact app_l | exact app_r) ?_; intro h13 L13 eL13 lL13 hs13
  refine mv rfl .no (.u rfl) ?_
  refine kc rfl Fx.go79 (Eva.cons (.u rfl) (Eva.cons (.u rfl) (Eva.cons (.u rfl) Eva.nil))) (Expand_ok L13 h13 use hu _ hs13 hsu hK (by omega) hl) ?_
  rintro _ G15 μ15 hG15 ⟨h15, L15, eL15, rfl, rfl, hs15⟩
  have hsu := hsu.mono hG15
  have hK := hK.mono hG15
  have hbb2 := hbb2.mono hG15
  have hs9 := hs9.mono hG15
  have hs10 := hs10.mono hG15
  have hbb5 := hbb5.mono hG15
  have hs13 := hs13.mono hG15
  refine mv rfl .no (.u rfl) ?_
  refine ex rfl .no (.u rfl) rfl ?_
  refine ex rfl .no (.u rfl) rfl ?_
  refine asg rfl .no (.u rfl) ?_
  have lL15 : L15.length = 64 := by rw [eL15, exp_len]
  refine asg rfl .no (.u rfl) ?_
  refine .nil ?_
  refine .code ?_
  refine .seq ?_
  refine Wk.draw (mc := ⟨false, false⟩) [0, 1, 2, 3, 4, 5, 6, 7, 8, 9] Fx.mix (by kernel_rfl) ?_
  refine mv rfl .no (.u rfl) ?_
  refine kE (32) rfl .no Fx.se27 hs15 (.u rfl) (.u rfl) (fun _ => by omega) (fun _ => by omega) ?_
  intro h19 L19 eL19 lL19 hs19
  have lL19 := lL19 rfl
  refine spS rfl .no Fx.ar22 hs19 (.u rfl) (fun _ => by omega) (by decide) ?_
  refine lA rfl .no Fx.ag22 (.u rfl) (fun _ => (hs19.arr (m := 32) (by omega)).rd) (fun _ => ba_len _ _) ?_
  refine mv rfl .no (.u rfl) ?_
  refine kD (32) rfl .no Fx.se27 hs15 (.u rfl) (.u rfl) (fun _ => by omega) (fun _ => by omega) ?_
  intro h23 L23 eL23 lL23 hs23
  have lL23 := lL23 rfl
  refine spS rfl .no Fx.ar22 hs23 (.u rfl) (fun _ => by omega) (by decide) ?_
  refine lA rfl .no Fx.ag22 (.u rfl) (fun _ => (hs23.arr (m := 32) (by omega)).rd) (fun _ => ba_len _ _) ?_
  refine bCe (ba 32 (fun i => L19.getD i 0) ++ ba 32 (fun i => L23.getD i 0)) rfl .no Fx.bp24_0_1 (.cons (.u rfl) rfl (.cons (.u rfl) rfl .nil)) rfl (key_put (by decide) _ _) ?_
  refine sw rfl (.u rfl) (.u rfl) rfl Fx.sz24 .here (by first | exact (ba_len _ _).trans (ba_len _ _).symm | exact (wa_len _ _).trans (wa_len _ _).symm | exact ba_len _ _ | exact wa_len _ _ | rfl | (simp only [wa_len, ba_len, List.length_append, List.length_cons, List.length_nil])) (key_one _ _) ?_
  refine .nil ?_
  refine .code ?_
  refine .ret ?_
  refine We.fin0 Tryd.results60 (.cell rfl (fun w hw => run_loadVarN Fx.ag24 (RdN.own .here) ((by first | exact (ba_len _ _).trans (ba_len _ _).symm | exact (wa_len _ _).trans (wa_len _ _).symm | exact ba_len _ _ | exact wa_len _ _ | rfl | (simp only [wa_len, ba_len, List.length_append, List.length_cons, List.length_nil]))) hw) .nil) ?_
  have e : L15 = deriveL root use := by rw [eL15, eL13, eL10]; rfl
  exact ⟨rfl, congrArg (fun z => Value.agg (List.toArray z)) (key_cells e eL19 eL23)⟩

theorem KeyOf_ok (root : Nat → Y) (h : Hd) (G : PM) (hK : RdNP G 1 0 (wa 64 kW)) : Ct Tryd.prog 38 ([.agg (ba 32 root).toArray, .agg ([V h.kind, V h.level, uv .u64 h.gen, uv .u64 h.epoch, uv .u64 h.num] : List Value).toArray] : List Value).toArray G [] (fun _ μ' u => μ' = [] ∧ u = .agg (ba 32 (keyEnc root (headL h)) ++ ba 32 (keyMac root (headL h))).toArray) := by
  refine Ct.of Tryd.func38 rfl Tryd.ntmps38 rfl fun w0 hs0 => ?_
  refine .seq ?_
  refine Wk.rg [0, 1, 2] rfl rfl ?_
  refine bx rfl (.u rfl) rfl ?_; intro b2
  refine bx rfl (.u rfl) rfl ?_; intro b3
  refine al rfl Fx.zr24 ?_; intro b4
  refine .nil ?_
  refine .code ?_
  refine .seq ?_
  refine Wk.draw (mc := ⟨false, false⟩) [0, 1, 2, 3, 4] Fx.mix (by kernel_rfl) ?_
  refine lA rfl .no Fx.ag42 (.u rfl) (fun _ => RdN.own (.there (.there .here))) (fun _ => (by first | exact (key_len _ _).trans (key_len _ _).symm | exact key_len _ _ | exact ba_len _ _ | rfl)) ?_
  refine lA rfl .no Fx.ag45 (.u rfl) (fun _ => RdN.own (.there .here)) (fun _ => (by first | exact (key_len _ _).trans (key_len _ _).symm | exact key_len _ _ | exact ba_len _ _ | rfl)) ?_
  refine kc rfl Fx.go40 (Eva.cons (.u rfl) Eva.nil) (Ct.frzB (nLay_ok h _)) ?_
  rintro _ G7 μ7 hG7 ⟨h7, L7, eL7, rfl, rfl, hs7⟩
  have hK := hK.mono hG7
  refine kv rfl .no Fx.go60 (Eva.cons (.u rfl) (Eva.cons (.u rfl) Eva.nil)) (fun _ => Derive_ok root L7 h7 _ hs7 hK (by rw [eL7, head_len]; decide)) ?_
  refine sw rfl (.u rfl) (.u rfl) rfl Fx.sz24 .here (by first | exact (key_len _ _).trans (key_len _ _).symm | exact key_len _ _ | exact ba_len _ _ | rfl) (key_one _ _) ?_
  refine .nil ?_
  refine .code ?_
  refine .ret ?_
  refine We.fin0 Tryd.results38 (.cell rfl (fun w hw => run_loadVarN Fx.ag24 (RdN.own .here) ((by first | exact (key_len _ _).trans (key_len _ _).symm | exact key_len _ _ | exact ba_len _ _ | rfl)) hw) .nil) ?_
  subst eL7
  exact ⟨rfl, rfl⟩

theorem rExpand_ok (key : List Y) (hk : Sh) (use : List Y) (hu : Sh) (G : PM) (hsk : SlR G 1 encY hk key) (hsu : SlR G 1 encY hu use) (hR : RdNP G 0 0 (wa 64 kW)) (hlk : key.length ≤ 1000) (hl : use.length ≤ 1000000) : Ct Tryd.prog 82 ([hk.val key.length, hu.val use.length, .int .i64 ((64 : Nat) : Int)] : List Value).toArray G [] (fun G' μ' u => ∃ s L, L = expL key use 2 ∧ μ' = [] ∧ u = .tuple #[s.val L.length, .int .i64 0] ∧ SlR G' 1 encY s L) := by
  refine Ct.of Tryd.func82 rfl Tryd.ntmps82 rfl fun w0 hs0 => ?_
  refine .seq ?_
  refine Wk.rg [0, 1] rfl rfl ?_
  refine asg rfl .no (.u rfl) ?_
  refine asg rfl .no (.u rfl) ?_
  refine .nil ?_
  refine .code ?_
  refine .seq ?_
  refine .seq ?_
  refine Wk.rg [0, 1, 2, 3, 4, 5] rfl rfl ?_
  refine mv rfl .no (.u rfl) ?_
  refine cp rfl .no (.u rfl) (.u rfl) rfl ?_
  refine mv rfl .no (.u rfl) ?_
  refine mv rfl (.f rfl rfl) (.u rfl) ?_
  refine cp rfl (.f rfl rfl) (.s rfl) (.u rfl) rfl ?_
  refine pkO rfl .no (.u rfl) (.s rfl) ?_
  refine .nil ?_
  refine .code ?_
  refine .cond rfl (fun c1 => ?_) (fun c1 => ?_)
  · have c1k := c1
    exact absurd c1 (by decide)
  · have c1k := c1
    try simp only [decide_eq_true_eq, decide_eq_false_iff_not, Int.not_lt, Int.not_le, gt_iff_lt, ge_iff_le, Bool.or_eq_true, Bool.and_eq_true, Bool.or_eq_false_iff, Bool.not_eq_true', Bool.not_eq_false', Int.toNat_natCast, bne_iff_ne, beq_iff_eq, bne_eq_false_iff_eq, beq_eq_false_iff_ne, ne_eq] at c1
    refine .skip ?_
    refine .code ?_
    refine .seq ?_
    refine Wk.rg [0] rfl rfl ?_
    refine asg rfl .no (.u rfl) ?_
    refine .nil ?_
    refine .code ?_
    refine .seq ?_
    refine wk_nilB 5 ?_
    refine Wk.rg [0] rfl rfl ?_
    refine asg rfl .no (.u rfl) ?_
    refine .nil ?_
    refine .code ?_
    refine .seq ?_
    refine .seq ?_
    refine wk_nilB 5 ?_
    refine Wk.rg [0] rfl rfl ?_
    refine asg rfl .no (.u rfl) ?_
    refine .nil ?_
    refine .code ?_
    refine .block ?_
    refine Wk.lop (α := Nat × Value × List Y × Value × List Y) (fun gh => [(8, true, gh.2.1), (9, true, gh.2.2.2.1), (10, true, .int .i64 ((gh.1 + 1 : Nat) : Int))]) (fun gh => [rB gh.2.2.2.1 5 gh.2.2.2.2, rB gh.2.1 5 gh.2.2.1])
      (fun gh Gl => (gh.1 ≤ 2) ∧ (gh.2.2.1 = expL key use gh.1) ∧ (gh.2.2.2.2 = expB key use gh.1)) (fun gh => 2 - gh.1) (0, .slice none 0 0, [], .slice none 0 0, []) [(0, true, _), (1, true, _), (2, true, _)] []
      (ESub.cons rfl rfl (ESub.cons rfl rfl (ESub.cons rfl (by first | rfl | exact evi (by omega)) (ESub.cons rfl rfl (ESub.cons rfl rfl (ESub.cons rfl rfl ESub.nil))))))
      (MSub.cons .here rfl (MSub.cons .here rfl MSub.nil)) ?_ ?_
    · refine ⟨?_, ?_, ?_⟩
      · (try dsimp only) <;> (first | omega | rfl | assumption | (simp; done))
      · (try dsimp only) <;> (rfl)
      · (try dsimp only) <;> (rfl)
    intro gh N0 Gl0 hN0 hGl0 hF0
    obtain ⟨j, v, A, u, B⟩ := gh; dsimp only at hF0 hN0 ⊢
    obtain ⟨hj, eA, eB⟩ := hF0
    have hsk := hsk.mono hGl0
    have hsu := hsu.mono hGl0
    have hR := hR.mono hGl0
    have lA : A.length = 32 * j := by rw [eA, exp_len]
    have lB : B.length ≤ 32 := by rw [eB]; exact exp_len1 _ _ _
    refine .seq ?_
    refine .seq ?_
    refine Wk.rg [0, 1, 2, 3] rfl rfl ?_
    refine mv rfl .no (.u rfl) ?_
    refine lr rfl .no Fx.sn27 (.u rfl) (.there .here) ?_
    refine mv rfl .no (.u rfl) ?_
    refine cp rfl .no (.u rfl) (.u rfl) rfl ?_
    refine .nil ?_
    refine .code ?_
    refine .cond rfl (fun c2 => ?_) (fun c2 => ?_)
    · have c2k := c2
      try simp only [decide_eq_true_eq, decide_eq_false_iff_not, Int.not_lt, Int.not_le, gt_iff_lt, ge_iff_le, Bool.or_eq_true, Bool.and_eq_true, Bool.or_eq_false_iff, Bool.not_eq_true', Bool.not_eq_false', Int.toNat_natCast, bne_iff_ne, beq_iff_eq, bne_eq_false_iff_eq, beq_eq_false_iff_ne, ne_eq] at c2
      refine .skip ?_
      refine .code ?_
      refine .seq ?_
      refine .block ?_
      refine .seq ?_
      refine wk_rs .here ?_; intro sRB bbRB evRB lcRB oaRB; subst evRB
      refine Wk.rg [0, 1, 2, 3] rfl rfl ?_
      refine b0B rfl Fx.se27 ?_; intro b25
      refine mv rfl .no (.u rfl) ?_
      refine apY0 rfl Fx.se27 Fx.zv5 (.u rfl) (.u rfl) .here (Sc.rowS (.there .here) oaRB) (show B.length ≤ 140737488355328 by omega) ?_
      intro v27 L27 _ ov27 eL27
      have lL27 : L27.length = B.length := by rw [eL27]
      refine asg rfl .no (.u rfl) ?_
      refine .nil ?_
      refine .code ?_
      refine .seq ?_
      refine Wk.rg [0, 1, 2, 3] rfl rfl ?_
      refine mv rfl .no (.u rfl) ?_
      refine mv rfl .no (.u rfl) ?_
      refine apY rfl Fx.se27 Fx.zv5 (.u rfl) (.u rfl) .here hsu.sc (by (try simp only [List.length_append, List.length_cons, List.length_nil, yl_len]); omega) ?_
      intro v30 L30 ov30 eL30
      have lL30 : L30.length = L27.length + use.length := by rw [eL30, List.length_append]
      refine asg rfl .no (.u rfl) ?_
      refine .nil ?_
      refine .code ?_
      refine .seq ?_
      refine Wk.rg [0, 1, 2, 3, 4, 5] rfl rfl ?_
      refine mv rfl .no (.u rfl) ?_
      refine mv rfl .no (.u rfl) ?_
      refine ci rfl .no rfl Fx.cv3_5 (.u rfl) ?_
      refine Go.Tan.b1 rfl Fx.se27 Fx.zv5 (.u rfl) rfl rfl (by decide) ?_; intro b34
      refine apY rfl Fx.se27 Fx.zv5 (.u rfl) (.u rfl) (.there .here) (Sc.one .here) (by show _ + 1 ≤ _; omega) ?_
      intro v35 L35 ov35 eL35
      have lL35 : L35.length = L30.length + 1 := by rw [eL35, List.length_append]; first | rfl | simp [yl_len]
      refine asg rfl .no (.u rfl) ?_
      refine .nil ?_
      refine .code ?_
      refine .seq ?_
      refine wk_fb .here (by first | (intro b hb; cases hb; done) | simp [keys, Res.keys]) ?_; intro GfR27 hR27 hleR27 evR27 hsR27; subst evR27
      have hsk := hsk.mono hleR27
      have hsu := hsu.mono hleR27
      have hR := hR.mono hleR27
      refine Wk.rg [0, 1, 2, 3, 4] rfl rfl ?_
      refine mv rfl .no (.u rfl) ?_
      refine mv rfl .no (.u rfl) ?_
      refine kv rfl .no Fx.go37 (Eva.cons (.u rfl) (Eva.cons (.u rfl) Eva.nil)) (fun _ => rmacSum_ok key hk L35 _ _ hsk hsR27 hR hlk (by omega)) ?_
      refine al rfl Fx.zr42 ?_; intro b12
      refine sw rfl (.u rfl) (.u rfl) rfl Fx.sz42 .here (by first | exact (ba_len _ _).trans (ba_len _ _).symm | exact (wa_len _ _).trans (wa_len _ _).symm | exact ba_len _ _ | exact wa_len _ _ | rfl | (simp only [wa_len, ba_len, List.length_append, List.length_cons, List.length_nil])) (by first | exact ba_one _ _ | exact wa_one _ _ | exact one_V _ | decide | exact one_app (wa_one _ _) (by simp [Value.oneCell'])) ?_
      refine .nil ?_
      refine .code ?_
      refine .seq ?_
      refine Wk.rg [0, 1, 2, 3] rfl rfl ?_
      refine b0B rfl Fx.se27 ?_; intro b39
      refine sa0 rfl .no Fx.ar42 (.u rfl) ?_
      refine apY0 rfl Fx.se27 Fx.zv5 (.u rfl) (.u rfl) .here (Sc.arr (.there .here)) (Nat.le_trans (Nat.le_of_eq (yl_len 32 _)) (by decide)) ?_
      intro v41 L41 _ ov41 eL41
      have lL41 : L41.length = 32 := by rw [eL41]; first | rfl | simp [yl_len]
      refine asg rfl .no (.u rfl) ?_
      refine .nil ?_
      refine .code ?_
      refine wk_rs .here ?_; intro sRB bbRB evRB lcRB oaRB; subst evRB
      refine Wk.rg [0, 1, 2, 3] rfl rfl ?_
      refine mv rfl .no (.u rfl) ?_
      refine mv rfl .no (.u rfl) ?_
      refine apY rfl Fx.se27 Fx.zv5 (.u rfl) (.u rfl) (.there (.there (.there (.there .here)))) (Sc.rowS .here oaRB) (by (try simp only [List.length_append, List.length_cons, List.length_nil, yl_len]); omega) ?_
      intro v44 L44 ov44 eL44
      have lL44 : L44.length = A.length + L41.length := by rw [eL44, List.length_append]
      refine asg rfl .no (.u rfl) ?_
      refine .nil ?_
      refine .blk ?_
      refine .code ?_
      refine Wk.rg [0, 1, 2] rfl rfl ?_
      refine mv rfl .no (.u rfl) ?_
      refine arn (((((j + 1 : Nat)) + 1) : Nat) : Int) rfl .no (.u rfl) (.u rfl) rfl (fun _ => by omega) (fun _ => wrap_i64 (by omega) (by omega)) ?_
      refine asg rfl .no (.u rfl) ?_
      refine .nil ?_
      refine We.lpo (j + 1, v44, L44, sRB.val L41.length, L41) ?_ ?_ ?_ ?_ ?_
      · exact (ESub.cons rfl rfl (ESub.cons rfl rfl (ESub.cons rfl (by first | rfl | exact evi (by omega)) (ESub.cons rfl rfl (ESub.cons rfl rfl (ESub.cons rfl rfl ESub.nil))))))
      · exact (MSub.cons (.there .here) rfl (MSub.cons .here rfl MSub.nil))
      · first | omega | (dsimp only; omega)
      · exact (hGl0).trans hleR27
      · refine ⟨?_, ?_, ?_⟩
        · (try dsimp only) <;> (first | omega | rfl | assumption | (simp; done))
        · (try dsimp only) <;> (rw [eL44, eA, eL41, eL35, eL30, eL27, eB]; exact exp_stepA _ _ _)
        · (try dsimp only) <;> (rw [eL41, eL35, eL30, eL27, eB]; exact exp_stepB _ _ _)
    · have c2k := c2
      try simp only [decide_eq_true_eq, decide_eq_false_iff_not, Int.not_lt, Int.not_le, gt_iff_lt, ge_iff_le, Bool.or_eq_true, Bool.and_eq_true, Bool.or_eq_false_iff, Bool.not_eq_true', Bool.not_eq_false', Int.toNat_natCast, bne_iff_ne, beq_iff_eq, bne_eq_false_iff_eq, beq_eq_false_iff_ne, ne_eq] at c2
      refine .exit ?_
      refine .xcode ?_
      refine .xlp ?_
      refine .xblk ?_
      refine .code ?_
      refine .seq ?_
      refine wk_fb (.there .here) (by first | (intro b hb; cases hb; done) | simp [keys, Res.keys]) ?_; intro GfRA hRA hleRA evRA hsRA; subst evRA
      have hsk := hsk.mono hleRA
      have hsu := hsu.mono hleRA
      have hR := hR.mono hleRA
      refine Wk.rg [0, 1, 2, 3, 4] rfl rfl ?_
      refine mv rfl .no (.u rfl) ?_
      refine mv rfl .no (.u rfl) ?_
      refine kE (64) rfl .no Fx.se27 hsRA (.u rfl) (.u rfl) (fun _ => by omega) (fun _ => by omega) ?_
      intro h47 L47 eL47 lL47 hs47
      have lL47 := lL47 rfl
      refine asg rfl .no (.u rfl) ?_
      refine asg rfl .no (.u rfl) ?_
      refine .nil ?_
      refine .code ?_
      refine .ret ?_
      refine We.fin0 Tryd.results82 (.tmp rfl (.tmp rfl .nil)) ?_
      obtain rfl : j = 2 := by omega
      exact ⟨h47, L47, by rw [eL47, eA]; exact List.take_of_length_le (by rw [exp_len]; omega), rfl, rfl, hs47⟩

theorem rDerive_ok (root : Nat → Y) (use : List Y) (hu : Sh) (G : PM) (hsu : SlR G 1 encY hu use) (hR : RdNP G 0 0 (wa 64 kW)) (hl : use.length ≤ 1000000) : Ct Tryd.prog 63 ([.agg (ba 32 root).toArray, hu.val use.length] : List Value).toArray G [] (fun _ μ' u => μ' = [] ∧ u = .agg (ba 32 (keyEnc root use) ++ ba 32 (keyMac root use)).toArray) := by
  refine Ct.of Tryd.func63 rfl Tryd.ntmps63 rfl fun w0 hs0 => ?_
  refine .seq ?_
  refine Wk.rg [0, 1] rfl rfl ?_
  refine bx rfl (.u rfl) rfl ?_; intro b2
  refine al rfl Fx.zr24 ?_; intro b4
  refine .nil ?_
  refine .code ?_
  refine .seq ?_
  refine wk_fz (.there .here) (by intro b hb; cases hb) ?_; intro Gfb2 hleb2 hbb2
  have hsu := hsu.mono hleb2
  have hR := hR.mono hleb2
  refine Wk.rg [0, 1, 2, 3, 4, 5] rfl rfl ?_
  refine Go.Tan.bN rfl Fx.se27 Fx.zv5 (Evp.cons (.u rfl) (Evp.cons (.u rfl) (Evp.cons (.u rfl) (Evp.cons (.u rfl) (Evp.cons (.u rfl) (Evp.cons (.u rfl) (Evp.cons (.u rfl) (Evp.cons (.u rfl) Evp.nil)))))))) rfl (by decide) (by simp [Value.oneCell', Sh.val]) ?_; intro b10
  refine mkS saltL rfl rfl Fx.cst27 (.u rfl) .here rfl rfl (by decide) ?_; intro G11 hG11 hs11
  have hsu := hsu.mono hG11
  have hR := hR.mono hG11
  have hbb2 := hbb2.mono hG11
  refine kA rfl .no Fx.ar42 (.u rfl) hbb2 (by first | exact ba_all | exact app_l | exact app_r) ?_; intro h12 L12 eL12 lL12 hs12
  refine kv rfl .no Fx.go37 (Eva.cons (.u rfl) (Eva.cons (.u rfl) Eva.nil)) (fun _ => rmacSum_ok saltL _ L12 h12 _ hs11 hs12 hR (by decide) (by omega)) ?_
  refine al rfl Fx.zr42 ?_; intro b5
  refine sw rfl (.u rfl) (.u rfl) rfl Fx.sz42 .here (by first | exact (key_len _ _).trans (key_len _ _).symm | exact key_len _ _ | exact ba_len _ _ | rfl) (by first | exact ba_one _ _ | exact wa_one _ _ | exact one_V _ | decide | exact one_app (wa_one _ _) (by simp [Value.oneCell'])) ?_
  refine .nil ?_
  refine .code ?_
  refine .seq ?_
  refine wk_fz .here (by intro b hb; cases hb) ?_; intro Gfb5 hleb5 hbb5
  have hsu := hsu.mono hleb5
  have hR := hR.mono hleb5
  have hbb2 := hbb2.mono hleb5
  have hs11 := hs11.mono hleb5
  have hs12 := hs12.mono hleb5
  refine Wk.rg [0, 1, 2, 3, 4, 5, 6, 7] rfl rfl ?_
  refine kA rfl .no Fx.ar42 (.u rfl) hbb5 (by first | exact ba_all | exact app_l | exact app_r) ?_; intro h15 L15 eL15 lL15 hs15
  refine mv rfl .no (.u rfl) ?_
  refine kc rfl Fx.go82 (Eva.cons (.u rfl) (Eva.cons (.u rfl) (Eva.cons (.u rfl) Eva.nil))) (rExpand_ok L15 h15 use hu _ hs15 hsu hR (by omega) hl) ?_
  rintro _ G17 μ17 hG17 ⟨h17, L17, eL17, rfl, rfl, hs17⟩
  have hsu := hsu.mono hG17
  have hR := hR.mono hG17
  have hbb2 := hbb2.mono hG17
  have hs11 := hs11.mono hG17
  have hs12 := hs12.mono hG17
  have hbb5 := hbb5.mono hG17
  have hs15 := hs15.mono hG17
  refine mv rfl .no (.u rfl) ?_
  refine ex rfl .no (.u rfl) rfl ?_
  refine ex rfl .no (.u rfl) rfl ?_
  refine asg rfl .no (.u rfl) ?_
  have lL17 : L17.length = 64 := by rw [eL17, exp_len]
  refine asg rfl .no (.u rfl) ?_
  refine .nil ?_
  refine .code ?_
  refine .seq ?_
  refine Wk.rg [0] rfl rfl ?_
  refine al rfl Fx.zr24 ?_; intro b8
  refine .nil ?_
  refine .code ?_
  refine .seq ?_
  refine .seq ?_
  refine Wk.rg [0] rfl rfl ?_
  refine asg rfl .no (.u rfl) ?_
  refine .nil ?_
  refine .code ?_
  refine .block ?_
  refine Wk.lop (α := Nat) (fun k => [(9, true, .int .i64 (k : Int))]) (fun k => [.blk b8 (cl (ba 32 (keyF (fun i => L17.getD i 0) k) ++ ba 32 (keyF (fun i => L17.getD (32 + i) 0) k)) 24)])
    (fun k Gl => (k ≤ 32)) (fun k => 32 - k) 0 [(4, true, _), (6, true, _), (8, true, _)] [_]
    (ESub.cons rfl (by first | rfl | exact evi (by omega)) (ESub.cons rfl rfl (ESub.cons rfl rfl (ESub.cons rfl rfl ESub.nil))))
    (MSub.cons .here rfl (MSub.cons .here rfl MSub.nil)) ?_ ?_
  · (try dsimp only) <;> (first | omega | rfl | assumption | (simp; done))
  intro k N0 Gl0 hN0 hGl0 hF0
  try dsimp only at hF0 hN0 ⊢
  have hk := hF0
  have hsu := hsu.mono hGl0
  have hR := hR.mono hGl0
  have hbb2 := hbb2.mono hGl0
  have hs11 := hs11.mono hGl0
  have hs12 := hs12.mono hGl0
  have hbb5 := hbb5.mono hGl0
  have hs15 := hs15.mono hGl0
  have hs17 := hs17.mono hGl0
  refine .seq ?_
  refine .seq ?_
  refine Wk.rg [0, 1] rfl rfl ?_
  refine mv rfl .no (.u rfl) ?_
  refine cp rfl .no (.u rfl) (.u rfl) rfl ?_
  refine .nil ?_
  refine .code ?_
  refine .cond rfl (fun c1 => ?_) (fun c1 => ?_)
  · have c1k := c1
    try simp only [decide_eq_true_eq, decide_eq_false_iff_not, Int.not_lt, Int.not_le, gt_iff_lt, ge_iff_le, Bool.or_eq_true, Bool.and_eq_true, Bool.or_eq_false_iff, Bool.not_eq_true', Bool.not_eq_false', Int.toNat_natCast, bne_iff_ne, beq_iff_eq, bne_eq_false_iff_eq, beq_eq_false_iff_ne, ne_eq] at c1
    refine .skip ?_
    refine .code ?_
    refine .seq ?_
    refine .block ?_
    refine .seq ?_
    refine Wk.rg [0, 1, 2, 3, 4, 5, 6, 7] rfl rfl ?_
    refine mv rfl .no (.u rfl) ?_
    refine mv rfl .no (.u rfl) ?_
    refine mv rfl .no (.u rfl) ?_
    refine ih rfl .no Fx.se27 (.u rfl) (.u rfl) (fun _ => by omega) (fun _ => by omega) (fun _ => hs17.nn (k := k) (by omega)) ?_
    refine ld rfl .no Fx.ag5 (.u rfl) (fun _ => (hs17.yat (k) (by omega) (by omega)).rd) ?_
    refine fz rfl .no Fx.fo24_0 (.u rfl) ?_
    refine iA rfl .no Fx.ar22 (.u rfl) (.u rfl) (fun _ => by omega) (fun _ => by omega) ?_
    refine s1 rfl (.u rfl) (.u rfl) rfl Fx.sz5 .here (by first | decide | (simp only [wa_len, ba_len, List.length_append, List.length_cons, List.length_nil]; omega)) (bap_set1 k (by omega) (by omega)) ?_
    refine .nil ?_
    refine .code ?_
    refine Wk.rg [0, 1, 2, 3, 4, 5, 6, 7, 8] rfl rfl ?_
    refine mv rfl .no (.u rfl) ?_
    refine mv rfl .no (.u rfl) ?_
    refine mv rfl .no (.u rfl) ?_
    refine arn (((32 + k) : Nat) : Int) rfl .no (.u rfl) (.u rfl) rfl (fun _ => by omega) (fun _ => wrap_i64 (by omega) (by omega)) ?_
    refine ih rfl .no Fx.se27 (.u rfl) (.u rfl) (fun _ => by omega) (fun _ => by omega) (fun _ => hs17.nn (k := (32 + k)) (by omega)) ?_
    refine ld rfl .no Fx.ag5 (.u rfl) (fun _ => (hs17.yat ((32 + k)) (by omega) (by omega)).rd) ?_
    refine fz rfl .no Fx.fo24_1 (.u rfl) ?_
    refine iA rfl .no Fx.ar22 (.u rfl) (.u rfl) (fun _ => by omega) (fun _ => by omega) ?_
    refine s1 rfl (.u rfl) (.u rfl) rfl Fx.sz5 .here (by first | decide | (simp only [wa_len, ba_len, List.length_append, List.length_cons, List.length_nil]; omega)) (bar_set1 k (by omega)) ?_
    refine .nil ?_
    refine .blk ?_
    refine .code ?_
    refine Wk.rg [0, 1, 2] rfl rfl ?_
    refine mv rfl .no (.u rfl) ?_
    refine arn (((k + 1) : Nat) : Int) rfl .no (.u rfl) (.u rfl) rfl (fun _ => by omega) (fun _ => wrap_i64 (by omega) (by omega)) ?_
    refine asg rfl .no (.u rfl) ?_
    refine .nil ?_
    refine We.lpo (k + 1) ?_ ?_ ?_ ?_ ?_
    · exact (ESub.cons rfl (by first | rfl | exact evi (by omega)) (ESub.cons rfl rfl (ESub.cons rfl rfl (ESub.cons rfl rfl ESub.nil))))
    · exact (MSub.cons .here (by rw [← keyF_step rfl, ← keyF_step rfl]) (MSub.cons .here rfl MSub.nil))
    · first | omega | (dsimp only; omega)
    · exact hGl0
    · (try dsimp only) <;> (first | omega | rfl | assumption | (simp; done))
  · have c1k := c1
    try simp only [decide_eq_true_eq, decide_eq_false_iff_not, Int.not_lt, Int.not_le, gt_iff_lt, ge_iff_le, Bool.or_eq_true, Bool.and_eq_true, Bool.or_eq_false_iff, Bool.not_eq_true', Bool.not_eq_false', Int.toNat_natCast, bne_iff_ne, beq_iff_eq, bne_eq_false_iff_eq, beq_eq_false_iff_ne, ne_eq] at c1
    refine .exit ?_
    refine .xcode ?_
    refine .xlp ?_
    refine .xblk ?_
    refine .code ?_
    refine .seq ?_
    refine Wk.rg [0, 1] rfl rfl ?_
    refine lA rfl .no Fx.ag24 (.u rfl) (fun _ => RdN.own .here) (fun _ => (by first | exact (key_len _ _).trans (key_len _ _).symm | exact key_len _ _ | exact ba_len _ _ | rfl)) ?_
    refine sw rfl (.u rfl) (.u rfl) rfl Fx.sz24 (.there .here) (by first | exact (key_len _ _).trans (key_len _ _).symm | exact key_len _ _ | exact ba_len _ _ | rfl) (key_one _ _) ?_
    refine .nil ?_
    refine .code ?_
    refine .ret ?_
    refine We.fin0 Tryd.results63 (.cell rfl (fun w hw => run_loadVarN Fx.ag24 (RdN.own .here) ((by first | exact (key_len _ _).trans (key_len _ _).symm | exact key_len _ _ | exact ba_len _ _ | rfl)) hw) .nil) ?_
    obtain rfl : k = 32 := by omega
    have e : L17 = deriveL root use := by rw [eL17, eL15, eL12]; rfl
    exact ⟨rfl, congrArg (fun z => Value.agg (List.toArray z)) (keyF_cells e)⟩

theorem rKeyOf_ok (root : Nat → Y) (h : Hd) (G : PM) (hR : RdNP G 0 0 (wa 64 kW)) : Ct Tryd.prog 42 ([.agg (ba 32 root).toArray, .agg ([V h.kind, V h.level, uv .u64 h.gen, uv .u64 h.epoch, uv .u64 h.num] : List Value).toArray] : List Value).toArray G [] (fun _ μ' u => μ' = [] ∧ u = .agg (ba 32 (keyEnc root (headL h)) ++ ba 32 (keyMac root (headL h))).toArray) := by
  refine Ct.of Tryd.func42 rfl Tryd.ntmps42 rfl fun w0 hs0 => ?_
  refine .seq ?_
  refine Wk.rg [0, 1, 2] rfl rfl ?_
  refine bx rfl (.u rfl) rfl ?_; intro b2
  refine bx rfl (.u rfl) rfl ?_; intro b3
  refine al rfl Fx.zr24 ?_; intro b4
  refine .nil ?_
  refine .code ?_
  refine .seq ?_
  refine Wk.draw (mc := ⟨false, false⟩) [0, 1, 2, 3, 4] Fx.mix (by kernel_rfl) ?_
  refine lA rfl .no Fx.ag42 (.u rfl) (fun _ => RdN.own (.there (.there .here))) (fun _ => (by first | exact (key_len _ _).trans (key_len _ _).symm | exact key_len _ _ | exact ba_len _ _ | rfl)) ?_
  refine lA rfl .no Fx.ag45 (.u rfl) (fun _ => RdN.own (.there .here)) (fun _ => (by first | exact (key_len _ _).trans (key_len _ _).symm | exact key_len _ _ | exact ba_len _ _ | rfl)) ?_
  refine kc rfl Fx.go44 (Eva.cons (.u rfl) Eva.nil) (Ct.frzB (rnLay_ok h _)) ?_
  rintro _ G7 μ7 hG7 ⟨h7, L7, eL7, rfl, rfl, hs7⟩
  have hR := hR.mono hG7
  refine kv rfl .no Fx.go63 (Eva.cons (.u rfl) (Eva.cons (.u rfl) Eva.nil)) (fun _ => rDerive_ok root L7 h7 _ hs7 hR (by rw [eL7, head_len]; decide)) ?_
  refine sw rfl (.u rfl) (.u rfl) rfl Fx.sz24 .here (by first | exact (key_len _ _).trans (key_len _ _).symm | exact key_len _ _ | exact ba_len _ _ | rfl) (key_one _ _) ?_
  refine .nil ?_
  refine .code ?_
  refine .ret ?_
  refine We.fin0 Tryd.results42 (.cell rfl (fun w hw => run_loadVarN Fx.ag24 (RdN.own .here) ((by first | exact (key_len _ _).trans (key_len _ _).symm | exact key_len _ _ | exact ba_len _ _ | rfl)) hw) .nil) ?_
  subst eL7
  exact ⟨rfl, rfl⟩

end Go.Proofs.YtoogjfldgeiapaaDoor
