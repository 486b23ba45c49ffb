/- Contracts of functions, walked. -/
import Derived.Test.YtoogjfldgeiapaaDoorSealT
namespace Go.Proofs.YtoogjfldgeiapaaDoor
set_option linter.unusedSimpArgs false
set_option linter.unusedVariables false
open Go.Tan Go.RowKit

namespace Fx
theorem go52 : goFn Tryd.prog 52 = true := by kernel_rfl
theorem go53 : goFn Tryd.prog 53 = true := by kernel_rfl
theorem go54 : goFn Tryd.prog 54 = true := by kernel_rfl
theorem zr32 : zrL Tryd.prog 32 = some (ba 16 (fun _ => 0#8)) := by kernel_rfl
theorem fo24_1 : fOff Tryd.prog 24 1 = some 32 := by kernel_rfl
theorem ar26 : arE Tryd.prog 26 = some (12, 5, 1) := by kernel_rfl
theorem go34 : goFn Tryd.prog 34 = true := by kernel_rfl
theorem go33 : goFn Tryd.prog 33 = true := by kernel_rfl
theorem ar32 : arE Tryd.prog 32 = some (16, 5, 1) := by kernel_rfl
theorem ag32 : aggN Tryd.prog 32 = some (some 16) := by kernel_rfl
theorem sz32 : szT Tryd.prog 32 = some 16 := by kernel_rfl
theorem fo24_0 : fOff Tryd.prog 24 0 = some 0 := by kernel_rfl
theorem ag26 : aggN Tryd.prog 26 = some (some 12) := by kernel_rfl
theorem go32 : goFn Tryd.prog 32 = true := by kernel_rfl
theorem ag24 : aggN Tryd.prog 24 = some (some 64) := by kernel_rfl
theorem go17 : goFn Tryd.prog 17 = true := by kernel_rfl
theorem baT32 : baT Tryd.prog 32 16 = true := by kernel_rfl
end Fx
theorem macSum_ok (key : List Y) (hk : Sh) (ps : List (Sh × List Y)) (h : Sh) (G : PM) (hsk : SlR G 1 encY hk key) (hs : SlP G h ps) (hK : RdNP G 1 0 (wa 64 kW)) (hlk : key.length ≤ 140737488351232) (hl : (catL ps).length ≤ 1000000000000000) (hn : ps.length ≤ 1000) : Ct Tryd.prog 33 ([hk.val key.length, h.val ps.length] : List Value).toArray G [] (fun _ μ' u => μ' = [] ∧ u = .agg (ba 32 (macL key (catL ps))).toArray) := by
  refine Ct.of Tryd.func33 rfl Tryd.ntmps33 rfl fun w0 hs0 => ?_
  refine .seq ?_
  refine Wk.rg [0] rfl rfl ?_
  refine al rfl Fx.zr42 ?_; intro b4
  refine .nil ?_
  refine .code ?_
  refine .seq ?_
  refine Wk.rg [0, 1, 2, 3, 4, 5, 6, 7, 8] rfl rfl ?_
  refine mv rfl .no (.u rfl) ?_
  refine kv rfl .no Fx.go52 (Eva.cons (.u rfl) Eva.nil) (fun _ => pads_ok key hk _ hsk hK hlk) ?_
  refine mv rfl .no (.u rfl) ?_
  refine ex rfl .no (.u rfl) rfl ?_
  refine ex rfl .no (.u rfl) rfl ?_
  refine al rfl Fx.zr85 ?_; intro b5
  refine al rfl Fx.zr85 ?_; intro b6
  refine sw rfl (.u rfl) (.u rfl) rfl Fx.sz85 (.there .here) (by first | exact (ba_len _ _).trans (ba_len _ _).symm | exact (wa_len _ _).trans (wa_len _ _).symm | exact ba_len _ _ | exact wa_len _ _ | rfl | (simp only [wa_len, ba_len, List.length_append, List.length_cons, List.length_nil])) (by first | exact ba_one _ _ | exact wa_one _ _ | exact one_V _ | decide | exact one_app (wa_one _ _) (by simp [Value.oneCell'])) ?_
  refine sw rfl (.u rfl) (.u rfl) rfl Fx.sz85 (.there .here) (by first | exact (ba_len _ _).trans (ba_len _ _).symm | exact (wa_len _ _).trans (wa_len _ _).symm | exact ba_len _ _ | exact wa_len _ _ | rfl | (simp only [wa_len, ba_len, List.length_append, List.length_cons, List.length_nil])) (by first | exact ba_one _ _ | exact wa_one _ _ | exact one_V _ | decide | exact one_app (wa_one _ _) (by simp [Value.oneCell'])) ?_
  refine .nil ?_
  refine .code ?_
  refine .seq ?_
  refine wk_fz (.there .here) (by intro b hb; cases hb) ?_; intro Gfb5 hleb5 hbb5
  have hsk := hsk.mono hleb5
  have hs := hs.mono hleb5
  have hK := hK.mono hleb5
  refine wk_fz .here (by intro b hb; cases hb) ?_; intro Gfb6 hleb6 hbb6
  have hsk := hsk.mono hleb6
  have hs := hs.mono hleb6
  have hK := hK.mono hleb6
  have hbb5 := hbb5.mono hleb6
  refine Wk.rg [0, 1] rfl rfl ?_
  refine kc rfl Fx.go53 Eva.nil (New_ok _) ?_
  rintro _ G16 μ16 hG16 ⟨b16, rfl, rfl⟩
  have hsk := hsk.mono hG16
  have hs := hs.mono hG16
  have hK := hK.mono hG16
  have hbb5 := hbb5.mono hG16
  have hbb6 := hbb6.mono hG16
  refine asg rfl .no (.u rfl) ?_
  refine .nil ?_
  refine .code ?_
  refine .seq ?_
  refine Wk.rg [0, 1, 2] rfl rfl ?_
  refine mv rfl .no (.u rfl) ?_
  refine kA rfl .no Fx.ar85 (.u rfl) hbb5 (by first | exact ba_all | exact app_l | exact app_r) ?_; intro h18 L18 eL18 lL18 hs18
  refine ka rfl (.inr rfl) Fx.go54 (Eva.cons (.u rfl) (Eva.cons (.u rfl) Eva.nil)) (mtk2 .here .here) (Write_ok [] L18 _ _ _ _ hs18 hK (by simp; omega)) ?_
  rintro _ G19 μ19 hG19 ⟨vq0, rfl, rfl⟩
  have hsk := hsk.mono hG19
  have hs := hs.mono hG19
  have hK := hK.mono hG19
  have hbb5 := hbb5.mono hG19
  have hbb6 := hbb6.mono hG19
  have hs18 := hs18.mono hG19
  refine .nil ?_
  refine .code ?_
  refine .seq ?_
  refine .seq ?_
  refine Wk.rg [0, 1, 2] rfl rfl ?_
  refine mv rfl .no (.u rfl) ?_
  refine ln rfl .no Fx.sn50 (.u rfl) ?_
  refine mv rfl .no (.u rfl) ?_
  refine .nil ?_
  refine .code ?_
  refine .block ?_
  refine Wk.lop (α := Nat × Value) (fun gh => [(22, true, .int .i64 (gh.1 : Int))]) (fun gh => [.blk b16 (cl (stC (L18 ++ catL (ps.take gh.1)) gh.2) 114), rB gh.2 5 (restL (L18 ++ catL (ps.take gh.1)))])
    (fun gh Gl => (gh.1 ≤ ps.length)) (fun gh => ps.length - gh.1) (0, vq0) [(4, true, _), (6, true, _), (7, true, _), (20, true, _), (21, true, _)] [_]
    (ESub.cons rfl (by first | rfl | exact evi (by omega)) (ESub.cons rfl rfl (ESub.cons rfl rfl (ESub.cons rfl rfl (ESub.cons rfl rfl (ESub.cons rfl rfl ESub.nil))))))
    (MSub.cons .here (by simp [catL]) (MSub.cons .here (by simp [catL]) (MSub.cons .here rfl MSub.nil))) ?_ ?_
  · (try dsimp only) <;> (first | omega | rfl | assumption | (simp; done))
  intro gh N0 Gl0 hN0 hGl0 hF0
  obtain ⟨k, vq⟩ := gh; dsimp only at hF0 hN0 ⊢
  have hk := hF0
  have hsk := hsk.mono hGl0
  have hs := hs.mono hGl0
  have hK := hK.mono hGl0
  have hbb5 := hbb5.mono hGl0
  have hbb6 := hbb6.mono hGl0
  have hs18 := hs18.mono hGl0
  refine .seq ?_
  refine Wk.rg [0] rfl rfl ?_
  refine cp rfl .no (.u rfl) (.u rfl) rfl ?_
  refine .nil ?_
  refine .code ?_
  refine .seq ?_
  refine .cond rfl (fun c1 => ?_) (fun c1 => ?_)
  · have c1k := c1
    try simp only [decide_eq_true_eq, decide_eq_false_iff_not, Int.not_lt, Int.not_le, gt_iff_lt, ge_iff_le, Bool.or_eq_true, Bool.and_eq_true, Bool.or_eq_false_iff, Bool.not_eq_true', Bool.not_eq_false', Int.toNat_natCast, bne_iff_ne, beq_iff_eq, bne_eq_false_iff_eq, beq_eq_false_iff_ne, ne_eq] at c1
    refine .skip ?_
    refine .code ?_
    refine .seq ?_
    refine .block ?_
    refine .seq ?_
    refine Wk.rg [0, 1, 2] rfl rfl ?_
    refine ih rfl .no Fx.se50 (.u rfl) (.u rfl) (fun _ => by omega) (fun _ => by omega) (fun _ => hs.sl.nn (k := k) (by omega)) ?_
    obtain ⟨p25, ep25⟩ := getx (k := k) (xs := ps) (by omega)
    have hq25 := hs.get ep25
    refine ld rfl .no Fx.ag27 (.u rfl) (fun _ => (hs.at (k) (by omega) ep25).rd) ?_
    refine asg rfl .no (.u rfl) ?_
    refine .nil ?_
    refine .code ?_
    refine Wk.rg [0, 1, 2] rfl rfl ?_
    refine mv rfl .no (.u rfl) ?_
    refine mv rfl .no (.u rfl) ?_
    refine ka rfl (.inr rfl) Fx.go54 (Eva.cons (.u rfl) (Eva.cons (.u rfl) Eva.nil)) (mtk2 .here .here) (Write_ok (L18 ++ catL (ps.take k)) p25.2 _ _ _ _ hq25 hK (by have := cat_len ep25; rw [List.length_append]; omega)) ?_
    rintro _ G28 μ28 hG28 ⟨vq', rfl, rfl⟩
    have hsk := hsk.mono hG28
    have hs := hs.mono hG28
    have hK := hK.mono hG28
    have hbb5 := hbb5.mono hG28
    have hbb6 := hbb6.mono hG28
    have hs18 := hs18.mono hG28
    have hq25 := hq25.mono hG28
    refine .nil ?_
    refine .blk ?_
    refine .code ?_
    refine Wk.rg [0, 1] rfl rfl ?_
    refine arn (((k + 1) : Nat) : Int) rfl .no (.u rfl) (.u rfl) rfl (fun _ => by omega) (fun _ => wrap_i64 (by omega) (by omega)) ?_
    refine mv rfl .no (.u rfl) ?_
    refine .nil ?_
    refine We.lpo (k + 1, vq') ?_ ?_ ?_ ?_ ?_
    · exact (ESub.cons rfl (by first | rfl | exact evi (by omega)) (ESub.cons rfl rfl (ESub.cons rfl rfl (ESub.cons rfl rfl (ESub.cons rfl rfl (ESub.cons rfl rfl ESub.nil))))))
    · exact (MSub.cons .here (by rw [cat_take ep25, List.append_assoc]) (MSub.cons .here (by rw [cat_take ep25, List.append_assoc]) (MSub.cons .here rfl MSub.nil)))
    · first | omega | (dsimp only; omega)
    · exact (hGl0).trans hG28
    · (try dsimp only) <;> (first | omega | rfl | assumption | (simp; done))
  · have c1k := c1
    try simp only [decide_eq_true_eq, decide_eq_false_iff_not, Int.not_lt, Int.not_le, gt_iff_lt, ge_iff_le, Bool.or_eq_true, Bool.and_eq_true, Bool.or_eq_false_iff, Bool.not_eq_true', Bool.not_eq_false', Int.toNat_natCast, bne_iff_ne, beq_iff_eq, bne_eq_false_iff_eq, beq_eq_false_iff_ne, ne_eq] at c1
    refine .exit ?_
    refine .xcode ?_
    refine .xlp ?_
    refine .xblk ?_
    refine .code ?_
    refine .seq ?_
    obtain rfl : k = ps.length := by omega
    rw [List.take_length]
    refine Wk.rg [0, 1, 2, 3] rfl rfl ?_
    refine mv rfl .no (.u rfl) ?_
    refine ka rfl (.inr rfl) Fx.go55 (Eva.cons (.u rfl) Eva.nil) (mtk2 .here .here) (StSum_ok (L18 ++ catL ps) _ _ _ hK (by rw [List.length_append]; omega)) ?_
    rintro _ G31 μ31 hG31 ⟨rfl, rfl⟩
    have hsk := hsk.mono hG31
    have hs := hs.mono hG31
    have hK := hK.mono hG31
    have hbb5 := hbb5.mono hG31
    have hbb6 := hbb6.mono hG31
    have hs18 := hs18.mono hG31
    refine al rfl Fx.zr42 ?_; intro b10
    refine sw rfl (.u rfl) (.u rfl) rfl Fx.sz42 .here (by first | exact (ba_len _ _).trans (ba_len _ _).symm | exact (wa_len _ _).trans (wa_len _ _).symm | exact ba_len _ _ | exact wa_len _ _ | rfl | (simp only [wa_len, ba_len, List.length_append, List.length_cons, List.length_nil])) (by first | exact ba_one _ _ | exact wa_one _ _ | exact one_V _ | decide | exact one_app (wa_one _ _) (by simp [Value.oneCell'])) ?_
    refine .nil ?_
    refine .code ?_
    refine .seq ?_
    refine wk_fz .here (by intro b hb; cases hb) ?_; intro Gfb10 hleb10 hbb10
    have hsk := hsk.mono hleb10
    have hs := hs.mono hleb10
    have hK := hK.mono hleb10
    have hbb5 := hbb5.mono hleb10
    have hbb6 := hbb6.mono hleb10
    have hs18 := hs18.mono hleb10
    refine Wk.draw (mc := ⟨false, false⟩) [0, 1, 2, 3, 4] Fx.mix (by kernel_rfl) ?_
    refine kA rfl .no Fx.ar85 (.u rfl) hbb6 (by first | exact ba_all | exact app_l | exact app_r) ?_; intro h32 L32 eL32 lL32 hs32
    refine kA rfl .no Fx.ar42 (.u rfl) hbb10 (by first | exact ba_all | exact app_l | exact app_r) ?_; intro h33 L33 eL33 lL33 hs33
    refine Go.Tan.bN rfl Fx.se50 Fx.zv27 (Evp.cons (.u rfl) (Evp.cons (.u rfl) Evp.nil)) rfl (by decide) (by simp [Value.oneCell', Sh.val]) ?_; intro b34
    refine kp rfl .no Fx.go56 (Eva.cons (.u rfl) Eva.nil) (Gp.add .here Gp.nil) (fun _ hle hq => sum2_ok hle hs32 hs33 hK (by omega)) ?_
    refine sw rfl (.u rfl) (.u rfl) rfl Fx.sz42 (.there (.there (.there .here))) (by first | exact (ba_len _ _).trans (ba_len _ _).symm | exact (wa_len _ _).trans (wa_len _ _).symm | exact ba_len _ _ | exact wa_len _ _ | rfl | (simp only [wa_len, ba_len, List.length_append, List.length_cons, List.length_nil])) (by first | exact ba_one _ _ | exact wa_one _ _ | exact one_V _ | decide | exact one_app (wa_one _ _) (by simp [Value.oneCell'])) ?_
    refine .nil ?_
    refine .code ?_
    refine .ret ?_
    refine We.fin0 Tryd.results33 (.cell rfl (fun w hw => run_loadVarN Fx.ag42 (RdN.own .here) ((by first | exact (ba_len _ _).trans (ba_len _ _).symm | exact (wa_len _ _).trans (wa_len _ _).symm | exact ba_len _ _ | exact wa_len _ _ | rfl | (simp only [wa_len, ba_len, List.length_append, List.length_cons, List.length_nil]))) hw) .nil) ?_
    exact ⟨rfl, by rw [eL32, eL33, eL18]; rfl⟩

theorem mac4_ok {G : PM} {b T : Nat} {hk h1 h2 h3 h4 : Sh} {key L1 L2 L3 L4 : List Y} (hle : PM.le G (G.add b (cl [h1.val L1.length, h2.val L2.length, h3.val L3.length, h4.val L4.length] T))) (hsk : SlR G 1 encY hk key) (hs : SlR G 1 encY h1 L1) (hs2 : SlR G 1 encY h2 L2) (hs3 : SlR G 1 encY h3 L3) (hs4 : SlR G 1 encY h4 L4) (hK : RdNP G 1 0 (wa 64 kW)) (hlk : key.length ≤ 140737488351232) (hl : L1.length + L2.length + L3.length + L4.length ≤ 1000000000000000) :
    Ct Tryd.prog 33 ([hk.val key.length, .slice (some ⟨b, 0, none⟩) 4 4] : List Value).toArray (G.add b (cl [h1.val L1.length, h2.val L2.length, h3.val L3.length, h4.val L4.length] T)) [] (fun _ μ' u => μ' = [] ∧ u = .agg (ba 32 (macL key (L1 ++ L2 ++ L3 ++ L4))).toArray) := by
  have h := macSum_ok key hk [(h1, L1), (h2, L2), (h3, L3), (h4, L4)] ⟨some ⟨b, 0, none⟩, 4⟩ _ (hsk.mono hle) (SlP.four hle hs hs2 hs3 hs4) (hK.mono hle) hlk (by simp [catL]; omega) (by simp)
  rw [show catL [(h1, L1), (h2, L2), (h3, L3), (h4, L4)] = L1 ++ L2 ++ L3 ++ L4 by simp [catL]] at h
  exact h
theorem Tag_ok (enc mac nonce : Nat → Y) (ad : List Y) (ha : Sh) (xs : List Y) (hx : Sh) (G : PM) (hsa : SlR G 1 encY ha ad) (hsx : SlR G 1 encY hx xs) (hK : RdNP G 1 0 (wa 64 kW)) (hla : ad.length ≤ 140737488351232) (hl : xs.length ≤ 140737488355328) : Ct Tryd.prog 17 ([.agg (ba 32 enc ++ ba 32 mac).toArray, .agg (ba 12 nonce).toArray, ha.val ad.length, hx.val xs.length] : List Value).toArray G [] (fun _ μ' u => μ' = [] ∧ u = .agg (ba 16 (tagF mac nonce ad xs)).toArray) := by
  refine Ct.of Tryd.func17 rfl Tryd.ntmps17 rfl fun w0 hs0 => ?_
  refine .seq ?_
  refine Wk.rg [0, 1, 2] rfl rfl ?_
  refine bx rfl (.u rfl) rfl ?_; intro b4
  refine bx rfl (.u rfl) rfl ?_; intro b5
  refine al rfl Fx.zr32 ?_; intro b8
  refine .nil ?_
  refine .code ?_
  refine .seq ?_
  refine wk_fz (.there (.there .here)) (by intro b hb; cases hb) ?_; intro Gfb4 hleb4 hbb4
  have hsa := hsa.mono hleb4
  have hsx := hsx.mono hleb4
  have hK := hK.mono hleb4
  refine wk_fz (.there .here) (by intro b hb; cases hb) ?_; intro Gfb5 hleb5 hbb5
  have hsa := hsa.mono hleb5
  have hsx := hsx.mono hleb5
  have hK := hK.mono hleb5
  have hbb4 := hbb4.mono hleb5
  refine Wk.draw (mc := ⟨false, false⟩) [0, 1, 2, 3, 4, 6, 7, 8, 5, 9, 10, 11, 12] Fx.mix (by kernel_rfl) ?_
  refine fa rfl .no Fx.fo24_1 (.u rfl) ?_
  refine kA rfl .no Fx.ar22 (.u rfl) hbb4 (by first | exact ba_all | exact app_l | exact app_r) ?_; intro h11 L11 eL11 lL11 hs11
  refine mv rfl .no (.u rfl) ?_
  refine ln rfl .no Fx.sn27 (.u rfl) ?_
  refine ci rfl .no rfl Fx.cv3_43 (.u rfl) ?_
  refine mv rfl .no (.u rfl) ?_
  refine kA rfl .no Fx.ar26 (.u rfl) hbb5 (by first | exact ba_all | exact app_l | exact app_r) ?_; intro h17 L17 eL17 lL17 hs17
  refine mv rfl .no (.u rfl) ?_
  refine kc rfl Fx.go34 (Eva.cons (.u rfl) (Eva.cons (.u rfl) (Eva.cons (.u rfl) Eva.nil))) (Ct.frzB (Fix_ok [] ⟨none, 0⟩ _ 8 _ SlR.nul (by simp) (by decide))) ?_
  rintro _ G15 μ15 hG15 ⟨h15, L15, eL15, rfl, rfl, hs15⟩
  have hsa := hsa.mono hG15
  have hsx := hsx.mono hG15
  have hK := hK.mono hG15
  have hbb4 := hbb4.mono hG15
  have hbb5 := hbb5.mono hG15
  have hs11 := hs11.mono hG15
  have hs17 := hs17.mono hG15
  refine Go.Tan.bN rfl Fx.se50 Fx.zv27 (Evp.cons (.u rfl) (Evp.cons (.u rfl) (Evp.cons (.u rfl) (Evp.cons (.u rfl) Evp.nil)))) rfl (by decide) (by simp [Value.oneCell', Sh.val]) ?_; intro b19
  have lL15 : L15.length = 8 := by rw [eL15, List.nil_append]; exact fix_len _ 8
  refine kp rfl .no Fx.go33 (Eva.cons (.u rfl) (Eva.cons (.u rfl) Eva.nil)) (Gp.add .here Gp.nil) (fun _ hle hq => mac4_ok hle hs11 hs15 hsa hs17 hsx hK (by omega) (by omega)) ?_
  refine al rfl Fx.zr42 ?_; intro b9
  refine sw rfl (.u rfl) (.u rfl) rfl Fx.sz42 .here (by first | exact (ba_len _ _).trans (ba_len _ _).symm | exact (wa_len _ _).trans (wa_len _ _).symm | exact ba_len _ _ | exact wa_len _ _ | rfl | (simp only [wa_len, ba_len, List.length_append, List.length_cons, List.length_nil])) (by first | exact ba_one _ _ | exact wa_one _ _ | exact one_V _ | decide | exact one_app (wa_one _ _) (by simp [Value.oneCell'])) ?_
  refine .nil ?_
  refine .code ?_
  refine .seq ?_
  refine Wk.rg [0, 1, 2, 3] rfl rfl ?_
  refine sah rfl .no Fx.ar42 (.u rfl) (.u rfl) (fun _ => by first | decide | omega) (fun _ => by first | decide | omega) ?_
  refine sp rfl .no Fx.ar32 (.u rfl) (fun _ => by first | decide | omega) ?_
  refine lA rfl .no Fx.ag32 (.u rfl) (fun _ => RdN.part (n := 16) (cs' := ba 16 _) .here (ba_take (by decide))) (fun _ => (by first | exact (ba_len _ _).trans (ba_len _ _).symm | exact (wa_len _ _).trans (wa_len _ _).symm | exact ba_len _ _ | exact wa_len _ _ | rfl | (simp only [wa_len, ba_len, List.length_append, List.length_cons, List.length_nil]))) ?_
  refine sw rfl (.u rfl) (.u rfl) rfl Fx.sz32 (.there (.there .here)) (by first | exact (ba_len _ _).trans (ba_len _ _).symm | exact (wa_len _ _).trans (wa_len _ _).symm | exact ba_len _ _ | exact wa_len _ _ | rfl | (simp only [wa_len, ba_len, List.length_append, List.length_cons, List.length_nil])) (by first | exact ba_one _ _ | exact wa_one _ _ | exact one_V _ | decide | exact one_app (wa_one _ _) (by simp [Value.oneCell'])) ?_
  refine .nil ?_
  refine .code ?_
  refine .ret ?_
  refine We.fin0 Tryd.results17 (.cell rfl (fun w hw => run_loadVarN Fx.ag32 (RdN.own .here) ((by first | exact (ba_len _ _).trans (ba_len _ _).symm | exact (wa_len _ _).trans (wa_len _ _).symm | exact ba_len _ _ | exact wa_len _ _ | rfl | (simp only [wa_len, ba_len, List.length_append, List.length_cons, List.length_nil]))) hw) .nil) ?_
  exact ⟨rfl, by rw [eL11, eL15, eL17]; rfl⟩

theorem tag_row (enc mac nonce : Nat → Y) (ad : List Y) (ha : Sh) (xs : List Y) (v : Value) (G : PM) (hsa : SlR G 1 encY ha ad) (hK : RdNP G 1 0 (wa 64 kW)) (hla : ad.length ≤ 140737488351232) (hl : xs.length ≤ 140737488355328) : Ct Tryd.prog 17 ([.agg (ba 32 enc ++ ba 32 mac).toArray, .agg (ba 12 nonce).toArray, ha.val ad.length, v] : List Value).toArray G [rB v 5 xs] (fun _ μ' u => ∃ ν, μ' = rB v 5 xs :: ν ∧ ν = [] ∧ u = .agg (ba 16 (tagF mac nonce ad xs)).toArray) :=
  Ct.lendB (fun hx G2 hle hv hs => by subst hv; exact Tag_ok enc mac nonce ad ha xs hx G2 (hsa.mono hle) hs (hK.mono hle) hla hl)
theorem Seal_ok (enc mac nonce : Nat → Y) (ad : List Y) (ha : Sh) (xs : List Y) (hx : Sh) (G : PM) (hsa : SlR G 1 encY ha ad) (hsx : SlR G 1 encY hx xs) (hK : RdNP G 1 0 (wa 64 kW)) (hla : ad.length ≤ 140737488351232) (hl : xs.length ≤ 140737488351232) : Ct Tryd.prog 16 ([.agg (ba 32 enc ++ ba 32 mac).toArray, .agg (ba 12 nonce).toArray, ha.val ad.length, hx.val xs.length] : List Value).toArray G [] (PR 5 (fun L => L = sealL enc mac nonce ad xs)) := by
  refine Ct.of Tryd.func16 rfl Tryd.ntmps16 rfl fun w0 hs0 => ?_
  have lc := cross_len enc nonce 1#32 xs
  refine .seq ?_
  refine Wk.rg [0, 1, 2] rfl rfl ?_
  refine bx rfl (.u rfl) rfl ?_; intro b4
  refine bx rfl (.u rfl) rfl ?_; intro b5
  refine asg rfl .no (.u rfl) ?_
  refine .nil ?_
  refine .code ?_
  refine .seq ?_
  refine Wk.rg [0, 1, 2, 3, 4, 5] rfl rfl ?_
  refine fz rfl .no Fx.fo24_0 (.u rfl) ?_
  refine lA rfl .no Fx.ag22 (.u rfl) (fun _ => RdN.part (n := 32) (cs' := ba 32 enc) (.there .here) (app_l)) (fun _ => (by first | exact (ba_len _ _).trans (ba_len _ _).symm | exact (wa_len _ _).trans (wa_len _ _).symm | exact ba_len _ _ | exact wa_len _ _ | rfl | (simp only [wa_len, ba_len, List.length_append, List.length_cons, List.length_nil]))) ?_
  refine lA rfl .no Fx.ag26 (.u rfl) (fun _ => RdN.own .here) (fun _ => (by first | exact (ba_len _ _).trans (ba_len _ _).symm | exact (wa_len _ _).trans (wa_len _ _).symm | exact ba_len _ _ | exact wa_len _ _ | rfl | (simp only [wa_len, ba_len, List.length_append, List.length_cons, List.length_nil]))) ?_
  refine mv rfl .no (.u rfl) ?_
  refine kc rfl Fx.go32 (Eva.cons (.u rfl) (Eva.cons (.u rfl) (Eva.cons (.u rfl) (Eva.cons (.u rfl) Eva.nil)))) (Ct.rowc (Cross_ok enc nonce 1#32 hx xs _ hsx hl)) ?_
  rintro v15 G15 μ15 hG15 ⟨L15, ov15, eL15, rfl⟩
  have hsa := hsa.mono hG15
  have hsx := hsx.mono hG15
  have hK := hK.mono hG15
  refine asg rfl .no (.u rfl) ?_
  refine .nil ?_
  refine .code ?_
  refine .seq ?_
  refine Wk.rg [0, 1, 2, 3, 4, 5, 6] rfl rfl ?_
  have lL15 : L15.length = xs.length := by rw [eL15, cross_len]
  refine lA rfl .no Fx.ag24 (.u rfl) (fun _ => RdN.own (.there (.there .here))) (fun _ => (by first | exact (ba_len _ _).trans (ba_len _ _).symm | exact (wa_len _ _).trans (wa_len _ _).symm | exact ba_len _ _ | exact wa_len _ _ | rfl | (simp only [wa_len, ba_len, List.length_append, List.length_cons, List.length_nil]))) ?_
  refine lA rfl .no Fx.ag26 (.u rfl) (fun _ => RdN.own (.there .here)) (fun _ => (by first | exact (ba_len _ _).trans (ba_len _ _).symm | exact (wa_len _ _).trans (wa_len _ _).symm | exact ba_len _ _ | exact wa_len _ _ | rfl | (simp only [wa_len, ba_len, List.length_append, List.length_cons, List.length_nil]))) ?_
  refine mv rfl .no (.u rfl) ?_
  refine mv rfl .no (.u rfl) ?_
  refine ka rfl (.inr rfl) Fx.go17 (Eva.cons (.u rfl) (Eva.cons (.u rfl) (Eva.cons (.u rfl) (Eva.cons (.u rfl) Eva.nil)))) (mtk1 .here) (tag_row enc mac nonce ad ha L15 _ _ hsa hK hla (by rw [eL15, cross_len]; omega)) ?_
  rintro _ G20 μ20 hG20 ⟨_, rfl, rfl, rfl⟩
  have hsa := hsa.mono hG20
  have hsx := hsx.mono hG20
  have hK := hK.mono hG20
  refine al rfl Fx.zr32 ?_; intro b10
  refine sw rfl (.u rfl) (.u rfl) rfl Fx.sz32 .here (by first | exact (ba_len _ _).trans (ba_len _ _).symm | exact (wa_len _ _).trans (wa_len _ _).symm | exact ba_len _ _ | exact wa_len _ _ | rfl | (simp only [wa_len, ba_len, List.length_append, List.length_cons, List.length_nil])) (by first | exact ba_one _ _ | exact wa_one _ _ | exact one_V _ | decide | exact one_app (wa_one _ _) (by simp [Value.oneCell'])) ?_
  refine .nil ?_
  refine .code ?_
  refine .seq ?_
  refine Wk.rg [0, 1, 2, 3] rfl rfl ?_
  refine mv rfl .no (.u rfl) ?_
  refine sa0 rfl .no Fx.ar32 (.u rfl) ?_
  refine apY rfl Fx.se27 Fx.zv5 (.u rfl) (.u rfl) (.there .here) (Sc.arr .here) (by (try simp only [List.length_append, List.length_cons, List.length_nil, yl_len]); omega) ?_
  intro v23 L23 ov23 eL23
  have lL23 : L23.length = L15.length + 16 := by rw [eL23, List.length_append]; first | rfl | simp [yl_len]
  refine asg rfl .no (.u rfl) ?_
  refine .nil ?_
  refine .code ?_
  refine .ret ?_
  refine We.fin Tryd.results16 (.tmp rfl .nil) (MSub.cons .here rfl MSub.nil) ?_
  exact ⟨L23, by rw [eL23, eL15]; rfl, rfl⟩

theorem Open_ok (enc mac nonce : Nat → Y) (ad : List Y) (ha : Sh) (xs : List Y) (hx : Sh) (G : PM) (hsa : SlR G 1 encY ha ad) (hsx : SlR G 1 encY hx xs) (hK : RdNP G 1 0 (wa 64 kW)) (hla : ad.length ≤ 140737488351232) (hl : xs.length ≤ 140737488351248) : Ct Tryd.prog 20 ([.agg (ba 32 enc ++ ba 32 mac).toArray, .agg (ba 12 nonce).toArray, ha.val ad.length, hx.val xs.length] : List Value).toArray G [] (fun _ μ' u => ∃ v L e, OpenR (openL enc mac nonce ad xs) L e ∧ μ' = [rB v 5 L] ∧ u = .tuple #[v, .int .i64 e]) := by
  refine Ct.of Tryd.func20 rfl Tryd.ntmps20 rfl fun w0 hs0 => ?_
  refine .seq ?_
  refine Wk.rg [0, 1, 2, 3] rfl rfl ?_
  refine bx rfl (.u rfl) rfl ?_; intro b4
  refine bx rfl (.u rfl) rfl ?_; intro b5
  refine asg rfl .no (.u rfl) ?_
  refine asg rfl .no (.u rfl) ?_
  refine .nil ?_
  refine .code ?_
  refine .seq ?_
  refine Wk.rg [0, 1, 2, 3] rfl rfl ?_
  refine mv rfl .no (.u rfl) ?_
  refine ln rfl .no Fx.sn27 (.u rfl) ?_
  refine ar rfl .no (.u rfl) (.u rfl) rfl (fun _ => wrap_i64 (by omega) (by omega)) ?_
  refine asg rfl .no (.u rfl) ?_
  refine .nil ?_
  refine .code ?_
  refine .seq ?_
  refine .seq ?_
  refine Wk.rg [0, 1] rfl rfl ?_
  refine mv rfl .no (.u rfl) ?_
  refine cp rfl .no (.u rfl) (.u rfl) rfl ?_
  refine .nil ?_
  refine .code ?_
  refine .cond rfl (fun c1 => ?_) (fun c1 => ?_)
  · have c1k := c1
    try simp only [decide_eq_true_eq, decide_eq_false_iff_not, Int.not_lt, Int.not_le, gt_iff_lt, ge_iff_le, Bool.or_eq_true, Bool.and_eq_true, Bool.or_eq_false_iff, Bool.not_eq_true', Bool.not_eq_false', Int.toNat_natCast, bne_iff_ne, beq_iff_eq, bne_eq_false_iff_eq, beq_eq_false_iff_ne, ne_eq] at c1
    refine .seq ?_
    refine Wk.rg [0, 1] rfl rfl ?_
    refine asg rfl .no (.u rfl) ?_
    refine asg rfl .no (.u rfl) ?_
    refine .nil ?_
    refine .code ?_
    refine .ret ?_
    refine we_nilB 5 ?_
    refine We.fin Tryd.results20 (.tmp rfl (.tmp rfl .nil)) (MSub.cons .here rfl MSub.nil) ?_
    rw [open_short (by omega)]; exact ⟨_, [], 60, .inr ⟨rfl, rfl, rfl⟩, rfl, rfl⟩
  · have c1k := c1
    try simp only [decide_eq_true_eq, decide_eq_false_iff_not, Int.not_lt, Int.not_le, gt_iff_lt, ge_iff_le, Bool.or_eq_true, Bool.and_eq_true, Bool.or_eq_false_iff, Bool.not_eq_true', Bool.not_eq_false', Int.toNat_natCast, bne_iff_ne, beq_iff_eq, bne_eq_false_iff_eq, beq_eq_false_iff_ne, ne_eq] at c1
    refine .skip ?_
    refine .code ?_
    refine .seq ?_
    refine Wk.rg [0, 1, 2, 3] rfl rfl ?_
    refine mv rfl .no (.u rfl) ?_
    refine mv rfl .no (.u rfl) ?_
    refine kE ((xs.length - 16)) rfl .no Fx.se27 hsx (.u rfl) (.u rfl) (fun _ => by omega) (fun _ => by omega) ?_
    intro h19 L19 eL19 lL19 hs19
    have lL19 := lL19 rfl
    refine asg rfl .no (.u rfl) ?_
    refine .nil ?_
    refine .code ?_
    refine .seq ?_
    refine .seq ?_
    refine Wk.draw (mc := ⟨false, false⟩) [0, 1, 2, 3, 5, 6, 7, 8, 9, 4, 10] Fx.mix (by kernel_rfl) ?_
    refine lA rfl .no Fx.ag24 (.u rfl) (fun _ => RdN.own (.there .here)) (fun _ => (by first | exact (ba_len _ _).trans (ba_len _ _).symm | exact (wa_len _ _).trans (wa_len _ _).symm | exact ba_len _ _ | exact wa_len _ _ | rfl | (simp only [wa_len, ba_len, List.length_append, List.length_cons, List.length_nil]))) ?_
    refine lA rfl .no Fx.ag26 (.u rfl) (fun _ => RdN.own .here) (fun _ => (by first | exact (ba_len _ _).trans (ba_len _ _).symm | exact (wa_len _ _).trans (wa_len _ _).symm | exact ba_len _ _ | exact wa_len _ _ | rfl | (simp only [wa_len, ba_len, List.length_append, List.length_cons, List.length_nil]))) ?_
    refine mv rfl .no (.u rfl) ?_
    refine mv rfl .no (.u rfl) ?_
    refine mv rfl .no (.u rfl) ?_
    refine mv rfl .no (.u rfl) ?_
    refine kD ((xs.length - 16)) rfl .no Fx.se27 hsx (.u rfl) (.u rfl) (fun _ => by omega) (fun _ => by omega) ?_
    intro h27 L27 eL27 lL27 hs27
    have lL27 := lL27 rfl
    refine spS rfl .no Fx.ar32 hs27 (.u rfl) (fun _ => by omega) (by decide) ?_
    refine lA rfl .no Fx.ag32 (.u rfl) (fun _ => (hs27.arr (m := 16) (by omega)).rd) (fun _ => ba_len _ _) ?_
    refine kv rfl .no Fx.go17 (Eva.cons (.u rfl) (Eva.cons (.u rfl) (Eva.cons (.u rfl) (Eva.cons (.u rfl) Eva.nil)))) (fun _ => Tag_ok enc mac nonce ad ha L19 h19 _ hsa hs19 hK hla (by omega)) ?_
    refine nqB rfl .no Fx.baT32 (.u rfl) (.u rfl) ?_
    refine .nil ?_
    refine .code ?_
    refine .cond rfl (fun c2 => ?_) (fun c2 => ?_)
    · have c2k := c2
      try simp only [decide_eq_true_eq, decide_eq_false_iff_not, Int.not_lt, Int.not_le, gt_iff_lt, ge_iff_le, Bool.or_eq_true, Bool.and_eq_true, Bool.or_eq_false_iff, Bool.not_eq_true', Bool.not_eq_false', Int.toNat_natCast, bne_iff_ne, beq_iff_eq, bne_eq_false_iff_eq, beq_eq_false_iff_ne, ne_eq] at c2
      refine .seq ?_
      refine Wk.rg [0, 1] rfl rfl ?_
      refine asg rfl .no (.u rfl) ?_
      refine asg rfl .no (.u rfl) ?_
      refine .nil ?_
      refine .code ?_
      refine .ret ?_
      refine we_nilB 5 ?_
      refine We.fin Tryd.results20 (.tmp rfl (.tmp rfl .nil)) (MSub.cons .here rfl MSub.nil) ?_
      rw [open_bad (by omega) (by rw [← eL19, ← eL27, ← yl_self L27, show L27.length = 16 by omega]; exact c2)]; exact ⟨_, [], 60, .inr ⟨rfl, rfl, rfl⟩, rfl, rfl⟩
    · have c2k := c2
      try simp only [decide_eq_true_eq, decide_eq_false_iff_not, Int.not_lt, Int.not_le, gt_iff_lt, ge_iff_le, Bool.or_eq_true, Bool.and_eq_true, Bool.or_eq_false_iff, Bool.not_eq_true', Bool.not_eq_false', Int.toNat_natCast, bne_iff_ne, beq_iff_eq, bne_eq_false_iff_eq, beq_eq_false_iff_ne, ne_eq] at c2
      refine .skip ?_
      refine .code ?_
      refine .seq ?_
      refine Wk.rg [0, 1, 2, 3, 4, 5, 6] rfl rfl ?_
      refine fz rfl .no Fx.fo24_0 (.u rfl) ?_
      refine lA rfl .no Fx.ag22 (.u rfl) (fun _ => RdN.part (n := 32) (cs' := ba 32 enc) (.there .here) (app_l)) (fun _ => (by first | exact (ba_len _ _).trans (ba_len _ _).symm | exact (wa_len _ _).trans (wa_len _ _).symm | exact ba_len _ _ | exact wa_len _ _ | rfl | (simp only [wa_len, ba_len, List.length_append, List.length_cons, List.length_nil]))) ?_
      refine lA rfl .no Fx.ag26 (.u rfl) (fun _ => RdN.own .here) (fun _ => (by first | exact (ba_len _ _).trans (ba_len _ _).symm | exact (wa_len _ _).trans (wa_len _ _).symm | exact ba_len _ _ | exact wa_len _ _ | rfl | (simp only [wa_len, ba_len, List.length_append, List.length_cons, List.length_nil]))) ?_
      refine mv rfl .no (.u rfl) ?_
      refine kc rfl Fx.go32 (Eva.cons (.u rfl) (Eva.cons (.u rfl) (Eva.cons (.u rfl) (Eva.cons (.u rfl) Eva.nil)))) (Ct.rowc (Cross_ok enc nonce 1#32 h19 L19 _ hs19 (by omega))) ?_
      rintro v35 G35 μ35 hG35 ⟨L35, ov35, eL35, rfl⟩
      have hsa := hsa.mono hG35
      have hsx := hsx.mono hG35
      have hK := hK.mono hG35
      have hs19 := hs19.mono hG35
      have hs27 := hs27.mono hG35
      refine asg rfl .no (.u rfl) ?_
      refine asg rfl .no (.u rfl) ?_
      refine .nil ?_
      refine .code ?_
      refine .ret ?_
      refine We.fin Tryd.results20 (.tmp rfl (.tmp rfl .nil)) (MSub.cons .here rfl MSub.nil) ?_
      rw [open_good (by omega) (by rw [← eL19, ← eL27, ← yl_self L27, show L27.length = 16 by omega]; exact c2), ← eL19]; exact ⟨v35, L35, 0, .inl ⟨by rw [eL35], rfl⟩, rfl, rfl⟩

end Go.Proofs.YtoogjfldgeiapaaDoor
