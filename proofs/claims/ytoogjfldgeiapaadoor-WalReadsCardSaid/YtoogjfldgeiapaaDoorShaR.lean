/- Contracts of functions, walked. -/
import Derived.Test.YtoogjfldgeiapaaDoorShaQ
namespace Go.Proofs.YtoogjfldgeiapaaDoor
set_option linter.unusedSimpArgs false
set_option linter.unusedVariables false
open Go.Tan Go.RowKit

namespace Fx
theorem zr114 : zrL Tryd.prog 114 = some ([.int .u32 0, .int .u32 0, .int .u32 0, .int .u32 0, .int .u32 0, .int .u32 0, .int .u32 0, .int .u32 0, .slice none 0 0, .int .i64 0]) := by kernel_rfl
theorem bp114_0 : bPl Tryd.prog 114 [0] = some ([.int .u32 0, .int .u32 0, .int .u32 0, .int .u32 0, .int .u32 0, .int .u32 0, .int .u32 0, .int .u32 0, .slice none 0 0, .int .i64 0], [(0, 8)]) := by kernel_rfl
theorem sz114 : szT Tryd.prog 114 = some 10 := by kernel_rfl
theorem ag114 : aggN Tryd.prog 114 = some (some 10) := by kernel_rfl
theorem go72 : goFn Tryd.prog 72 = true := by kernel_rfl
theorem pt89 : ptT Tryd.prog 89 = true := by kernel_rfl
theorem go73 : goFn Tryd.prog 73 = true := by kernel_rfl
theorem zr42 : zrL Tryd.prog 42 = some (ba 32 (fun _ => 0#8)) := by kernel_rfl
theorem ag112 : aggN Tryd.prog 112 = some (some 8) := by kernel_rfl
theorem bp114_0_1_2 : bPl Tryd.prog 114 [0, 1, 2] = some ([.int .u32 0, .int .u32 0, .int .u32 0, .int .u32 0, .int .u32 0, .int .u32 0, .int .u32 0, .int .u32 0, .slice none 0 0, .int .i64 0], [(0, 8), (8, 1), (9, 1)]) := by kernel_rfl
theorem cv3_43 : cvK Tryd.prog 3 43 = some .u64 := by kernel_rfl
theorem cv43_5 : cvK Tryd.prog 43 5 = some .u8 := by kernel_rfl
theorem ar42 : arE Tryd.prog 42 = some (32, 5, 1) := by kernel_rfl
theorem ag42 : aggN Tryd.prog 42 = some (some 32) := by kernel_rfl
theorem sz42 : szT Tryd.prog 42 = some 32 := by kernel_rfl
end Fx
theorem begin_ok (G : PM) : Ct Tryd.prog 72 ([] : List Value).toArray G [] (fun _ μ' u => μ' = [] ∧ u = .agg (stC [] (.slice none 0 0)).toArray) := by
  refine Ct.of Tryd.func72 rfl Tryd.ntmps72 rfl fun w0 hs0 => ?_
  refine .seq ?_
  refine Wk.rg [0] rfl rfl ?_
  refine al rfl Fx.zr114 ?_; intro b0
  refine .nil ?_
  refine .code ?_
  refine .seq ?_
  refine Wk.rg [0, 1, 2] rfl rfl ?_
  refine bCe (wa 8 ivW) rfl .no Fx.bp112_0_1_2_3_4_5_6_7 (.cons (.u rfl) rfl (.cons (.u rfl) rfl (.cons (.u rfl) rfl (.cons (.u rfl) rfl (.cons (.u rfl) rfl (.cons (.u rfl) rfl (.cons (.u rfl) rfl (.cons (.u rfl) rfl .nil)))))))) rfl (by rfl) ?_
  refine bCe (stC [] (.slice none 0 0)) rfl .no Fx.bp114_0 (.cons (.u rfl) rfl .nil) rfl (by rfl) ?_
  refine sw rfl (.u rfl) (.u rfl) rfl Fx.sz114 .here (by rfl) (one_app (wa_one _ _) (one2 rfl rfl)) ?_
  refine .nil ?_
  refine .code ?_
  refine .ret ?_
  refine We.fin0 Tryd.results72 (.cell rfl (fun w hw => run_loadVarN Fx.ag114 (RdN.own .here) ((by rfl)) hw) .nil) ?_
  exact ⟨rfl, rfl⟩

theorem New_ok (G : PM) : Ct Tryd.prog 53 ([] : List Value).toArray G [] (fun _ μ' u => ∃ b, μ' = [.blk b (cl (stC [] (.slice none 0 0)) 114), rB (.slice none 0 0) 5 (restL [])] ∧ u = .pointer (some ⟨b, 0, none⟩)) := by
  refine Ct.of Tryd.func53 rfl Tryd.ntmps53 rfl fun w0 hs0 => ?_
  refine .seq ?_
  refine Wk.rg [0] rfl rfl ?_
  refine asg rfl .no (.u rfl) ?_
  refine .nil ?_
  refine .code ?_
  refine .seq ?_
  refine Wk.rg [0, 1, 2] rfl rfl ?_
  refine kv rfl .no Fx.go72 Eva.nil (fun _ => begin_ok _) ?_
  refine al rfl Fx.zr114 ?_; intro b1
  refine sw rfl (.u rfl) (.u rfl) rfl Fx.sz114 .here (by rfl) (one_app (wa_one _ _) (one2 rfl rfl)) ?_
  refine .nil ?_
  refine .code ?_
  refine .seq ?_
  refine Wk.rg [0] rfl rfl ?_
  refine asg rfl .no (.u rfl) ?_
  refine .nil ?_
  refine we_nilB 5 ?_
  refine .code ?_
  refine .ret ?_
  refine We.fin Tryd.results53 (.tmp rfl .nil) (MSub.cons (.there .here) rfl (MSub.cons .here rfl MSub.nil)) ?_
  exact ⟨_, rfl, rfl⟩

theorem Write_ok (xs ys : List Y) (h : Sh) (vp : Value) (bs : Nat) (G : PM) (hs : SlR G 1 encY h ys) (hK : RdNP G 1 0 (wa 64 kW)) (hl : xs.length + ys.length ≤ 4611686018427387904) : Ct Tryd.prog 54 ([.pointer (some ⟨bs, 0, none⟩), h.val ys.length] : List Value).toArray G [.blk bs (cl (stC xs vp) 114), rB vp 5 (restL xs)] (fun _ μ' u => ∃ vp', μ' = [.blk bs (cl (stC (xs ++ ys) vp') 114), rB vp' 5 (restL (xs ++ ys))] ∧ u = .tuple #[]) := by
  refine Ct.of Tryd.func54 rfl Tryd.ntmps54 rfl fun w0 hs0 => ?_
  refine .seq ?_
  refine Wk.rg [0, 1] rfl rfl ?_
  refine mv rfl .no (.u rfl) ?_
  refine pn rfl .no Fx.pt89 (.u rfl) (.u rfl) ?_
  refine .nil ?_
  refine .code ?_
  refine Wk.condT rfl rfl ?_
  refine Wk.rg [0, 1, 2] rfl rfl ?_
  refine mv rfl .no (.u rfl) ?_
  refine mv rfl .no (.u rfl) ?_
  refine ka rfl (.inr rfl) Fx.go73 (Eva.cons (.u rfl) (Eva.cons (.u rfl) Eva.nil)) (mtk2 .here .here) (put_ok _ _ _ _ _ _ hs hK hl) ?_
  rintro _ G8 μ8 hG8 ⟨vq, rfl, rfl⟩
  have hs := hs.mono hG8
  have hK := hK.mono hG8
  refine .nil ?_
  refine .nil ?_
  refine We.fin Tryd.results54 .nil (MSub.cons .here rfl (MSub.cons .here rfl MSub.nil)) ?_
  exact ⟨vq, rfl, rfl⟩

theorem st_w {xs : List Y} {vp : Value} : ((stC xs vp).drop 0).take 8 = wa 8 (shaW xs (xs.length / 64)) := by
  rw [List.drop_zero, stC, List.take_append_of_le_length (by rw [wa_len]; exact Nat.le_refl _), List.take_of_length_le (by rw [wa_len]; exact Nat.le_refl _)]
theorem st_b {zs : List Value} {xs : List Y} {v : Value} (h : zs.length = 10) : bFold zs [(0, 8), (8, 1), (9, 1)] [wa 8 (shaW xs (xs.length / 64)), [v], [.int .i64 (xs.length : Int)]] = stC xs v := by
  match zs, h with
  | [a, b, c, d, e, f, g, h, i, j], _ => rfl
theorem lenF_int {n q : Nat} (h : q < 8) : lenF n q = ((BitVec.ofInt 64 (n : Int) * 8#64) >>> (56 - 8 * (q : Int)).toNat).setWidth 8 := by
  rw [show (56 - 8 * (q : Int)).toNat = 56 - 8 * q by omega]; rfl
theorem StSum_ok (xs : List Y) (vp : Value) (bs : Nat) (G : PM) (hK : RdNP G 1 0 (wa 64 kW)) (hl : xs.length ≤ 1152921504606846976) : Ct Tryd.prog 55 ([.pointer (some ⟨bs, 0, none⟩)] : List Value).toArray G [.blk bs (cl (stC xs vp) 114), rB vp 5 (restL xs)] (fun _ μ' u => μ' = [.blk bs (cl (stC xs vp) 114), rB vp 5 (restL xs)] ∧ u = .agg (ba 32 (shaD xs)).toArray) := by
  refine Ct.of Tryd.func55 rfl Tryd.ntmps55 rfl fun w0 hs0 => ?_
  have hr := rest_len xs
  have hz : zeros xs.length = (119 - xs.length % 64) % 64 := rfl
  refine .seq ?_
  refine Wk.rg [0] rfl rfl ?_
  refine al rfl Fx.zr42 ?_; intro b2
  refine .nil ?_
  refine .code ?_
  refine .seq ?_
  refine Wk.rg [0, 1, 2] rfl rfl ?_
  refine kv rfl .no Fx.go72 Eva.nil (fun _ => begin_ok _) ?_
  refine al rfl Fx.zr114 ?_; intro b3
  refine sw rfl (.u rfl) (.u rfl) rfl Fx.sz114 .here (by rfl) (one_app (wa_one _ _) (one2 rfl rfl)) ?_
  refine .nil ?_
  refine .code ?_
  refine .seq ?_
  refine .seq ?_
  refine Wk.rg [0, 1] rfl rfl ?_
  refine mv rfl .no (.u rfl) ?_
  refine pn rfl .no Fx.pt89 (.u rfl) (.u rfl) ?_
  refine .nil ?_
  refine .code ?_
  refine Wk.condT rfl rfl ?_
  refine wk_rs (.there (.there (.there .here))) ?_; intro sRP bbRP evRP lcRP oaRP; subst evRP
  refine Wk.draw (mc := ⟨false, true⟩) [0, 1, 2, 3, 5, 6, 7, 8, 10, 11, 12, 13, 4, 9, 14, 15] Fx.mix (by kernel_rfl) ?_
  refine mv rfl .no (.u rfl) ?_
  refine nc rfl .no (.u rfl) ?_
  refine fz rfl .no Fx.fo114_0 (.u rfl) ?_
  refine lA rfl .no Fx.ag112 (.u rfl) (fun _ => RdN.part (n := 8) (cs' := wa 8 (shaW xs (xs.length / 64))) (.there (.there .here)) (st_w)) (fun _ => (by first | exact (ba_len _ _).trans (ba_len _ _).symm | exact (wa_len _ _).trans (wa_len _ _).symm | exact ba_len _ _ | exact wa_len _ _ | rfl | (simp only [wa_len, ba_len, List.length_append, List.length_cons, List.length_nil]))) ?_
  refine mv rfl .no (.u rfl) ?_
  refine nc rfl .no (.u rfl) ?_
  refine fz rfl .no Fx.fo114_1 (.u rfl) ?_
  refine ld rfl .no Fx.ag27 (.u rfl) (fun _ => Rd.own (.there (.there .here)) (by first | exact wap_f rfl | rfl)) ?_
  refine mv rfl .no (.u rfl) ?_
  refine nc rfl .no (.u rfl) ?_
  refine fz rfl .no Fx.fo114_2 (.u rfl) ?_
  refine ld rfl .no Fx.ag3 (.u rfl) (fun _ => Rd.own (.there (.there .here)) (by first | exact wap_f rfl | rfl)) ?_
  refine b0B rfl Fx.se27 ?_; intro b16
  refine apY0 rfl Fx.se27 Fx.zv5 (.u rfl) (.u rfl) .here (Sc.rowS (.there (.there (.there (.there .here)))) oaRP) (by (try simp only [List.length_append, List.length_cons, List.length_nil, yl_len]); omega) ?_
  intro v21 L21 _ ov21 eL21
  have lL21 : L21.length = (restL xs).length := by rw [eL21]
  refine bCe (stC xs v21) rfl .no Fx.bp114_0_1_2 (.cons (.u rfl) rfl (.cons (.u rfl) (cells_one ov21) (.cons (.u rfl) rfl .nil))) rfl (st_b rfl) ?_
  refine sw rfl (.u rfl) (.u rfl) rfl Fx.sz114 (.there .here) (by rfl) (one_app (wa_one _ _) (one2 ov21 rfl)) ?_
  refine .nil ?_
  refine .code ?_
  refine .seq ?_
  subst eL21
  refine Wk.rg [0, 1, 2, 3, 4] rfl rfl ?_
  refine fz rfl .no Fx.fo114_2 (.u rfl) ?_
  refine ld rfl .no Fx.ag3 (.u rfl) (fun _ => Rd.own .here (by first | exact wap_f rfl | rfl)) ?_
  refine ci rfl .no rfl Fx.cv3_43 (.u rfl) ?_
  refine bw (k := .u64) (b := 8#64) rfl .no rfl (.u rfl) (.u rfl) rfl ?_
  refine asg rfl .no (.u rfl) ?_
  refine .nil ?_
  refine .code ?_
  refine .seq ?_
  refine Wk.rg [0, 1] rfl rfl ?_
  refine mkY (1) (72) rfl Fx.se27 Fx.zv5 (.u rfl) (.u rfl) (by first | rfl | omega) (by first | rfl | omega) (by omega) (by omega) ?_; intro b31
  have lR31 : (List.replicate (1) (0#8 : Y)).length = 1 := List.length_replicate
  refine asg rfl .no (.u rfl) ?_
  refine .nil ?_
  refine .code ?_
  refine .seq ?_
  refine Wk.rg [0, 1, 2] rfl rfl ?_
  refine mv rfl .no (.u rfl) ?_
  refine ia rfl .no Fx.se27 (.u rfl) (.u rfl) (fun _ => by omega) (fun _ => by omega) ?_
  refine s1r (z := 128#8) rfl (.u rfl) (.u rfl) Fx.sz5 .here (by omega) ?_; intro Ls6_2 eLs6_2 lLs6_2
  refine .nil ?_
  refine .code ?_
  refine .seq ?_
  refine .block ?_
  refine Wk.lop (α := Nat × Value × List Y) (fun gh => [(5, true, gh.2.1)]) (fun gh => [rB gh.2.1 5 gh.2.2])
    (fun gh Gl => (gh.1 ≤ zeros xs.length) ∧ (gh.2.2 = 128#8 :: List.replicate gh.1 0#8)) (fun gh => zeros xs.length - gh.1) (0, _, _) [(2, true, _), (3, true, _), (4, true, _)] [_, _, _, _, _]
    (ESub.cons rfl rfl (ESub.cons rfl rfl (ESub.cons rfl rfl (ESub.cons rfl rfl ESub.nil))))
    (MSub.cons .here rfl (MSub.cons .here rfl (MSub.cons .here rfl (MSub.cons .here rfl (MSub.cons .here rfl (MSub.cons .here rfl MSub.nil)))))) ?_ ?_
  · refine ⟨?_, ?_⟩
    · (try dsimp only) <;> (exact Nat.zero_le _)
    · (try dsimp only) <;> (rw [eLs6_2]; rfl)
  intro gh N0 Gl0 hN0 hGl0 hF0
  obtain ⟨j, v, L⟩ := gh; dsimp only at hF0 hN0 ⊢
  obtain ⟨hj, eL⟩ := hF0
  have hK := hK.mono hGl0
  have lL : L.length = j + 1 := by rw [eL]; simp
  have hz : zeros xs.length = (119 - xs.length % 64) % 64 := rfl
  refine .seq ?_
  refine .seq ?_
  refine Wk.rg [0, 1, 2, 3, 4, 5, 6] rfl rfl ?_
  refine fz rfl .no Fx.fo114_2 (.u rfl) ?_
  refine ld rfl .no Fx.ag3 (.u rfl) (fun _ => Rd.own (.there .here) (by first | exact wap_f rfl | rfl)) ?_
  refine mv rfl .no (.u rfl) ?_
  refine lr rfl .no Fx.sn27 (.u rfl) .here ?_
  refine arn (((xs.length + L.length) : Nat) : Int) rfl .no (.u rfl) (.u rfl) rfl (fun _ => by omega) (fun _ => wrap_i64 (by omega) (by omega)) ?_
  refine rmn ((xs.length + L.length)) (64) rfl .no (.u rfl) (.u rfl) (fun _ => by omega) (fun _ => by omega) (fun _ => by first | decide | omega) ?_
  refine cp rfl .no (.u rfl) (.u rfl) rfl ?_
  refine .nil ?_
  refine .code ?_
  refine .cond rfl (fun c1 => ?_) (fun c1 => ?_)
  · have c1k := c1
    try simp only [decide_eq_true_eq, decide_eq_false_iff_not, Int.not_lt, Int.not_le, gt_iff_lt, ge_iff_le, Bool.or_eq_true, Bool.and_eq_true, Bool.or_eq_false_iff, Bool.not_eq_true', Bool.not_eq_false', Int.toNat_natCast, bne_iff_ne, beq_iff_eq, bne_eq_false_iff_eq, beq_eq_false_iff_ne, ne_eq] at c1
    refine .skip ?_
    refine .code ?_
    refine .block ?_
    refine Wk.rg [0, 1, 2, 3] rfl rfl ?_
    refine mv rfl .no (.u rfl) ?_
    refine Go.Tan.b1 rfl Fx.se27 Fx.zv5 (.u rfl) rfl rfl (by decide) ?_; intro b42
    refine apY rfl Fx.se27 Fx.zv5 (.u rfl) (.u rfl) (.there .here) (Sc.one (y := 0#8) .here) (by show _ + 1 ≤ _; omega) ?_
    intro v43 L43 ov43 eL43
    have lL43 : L43.length = L.length + 1 := by rw [eL43, List.length_append]; first | rfl | simp [yl_len]
    refine asg rfl .no (.u rfl) ?_
    refine .nil ?_
    refine .blk ?_
    refine We.lpo (j + 1, v43, L43) ?_ ?_ ?_ ?_ ?_
    · exact (ESub.cons rfl rfl (ESub.cons rfl rfl (ESub.cons rfl rfl (ESub.cons rfl rfl ESub.nil))))
    · exact (MSub.cons .here rfl (MSub.cons (.there .here) rfl (MSub.cons (.there .here) rfl (MSub.cons (.there .here) rfl (MSub.cons (.there .here) rfl (MSub.cons (.there .here) rfl MSub.nil))))))
    · (try dsimp only); omega
    · exact hGl0
    · refine ⟨?_, ?_⟩
      · (try dsimp only) <;> (omega)
      · (try dsimp only) <;> (rw [eL43, eL, List.cons_append, ← List.replicate_succ'])
  · have c1k := c1
    try simp only [decide_eq_true_eq, decide_eq_false_iff_not, Int.not_lt, Int.not_le, gt_iff_lt, ge_iff_le, Bool.or_eq_true, Bool.and_eq_true, Bool.or_eq_false_iff, Bool.not_eq_true', Bool.not_eq_false', Int.toNat_natCast, bne_iff_ne, beq_iff_eq, bne_eq_false_iff_eq, beq_eq_false_iff_ne, ne_eq] at c1
    refine .exit ?_
    refine .xcode ?_
    refine .xlp ?_
    refine .xblk ?_
    refine .code ?_
    refine .seq ?_
    refine .seq ?_
    refine Wk.rg [0] rfl rfl ?_
    refine asg rfl .no (.u rfl) ?_
    refine .nil ?_
    refine .code ?_
    refine .block ?_
    refine Wk.lop (α := Nat × Value × List Y) (fun gh => [(5, true, gh.2.1), (6, true, .int .i64 (56 - 8 * (gh.1 : Int)))]) (fun gh => [rB gh.2.1 5 gh.2.2])
      (fun gh Gl => (gh.1 ≤ 8) ∧ (gh.2.2 = (128#8 :: List.replicate (zeros xs.length) 0#8) ++ lenB xs.length gh.1)) (fun gh => 8 - gh.1) (0, _, _) [(2, true, _), (3, true, _), (4, true, _)] [_, _, _, _, _]
      (ESub.cons rfl rfl (ESub.cons rfl (by first | rfl | exact evi (by omega)) (ESub.cons rfl rfl (ESub.cons rfl rfl (ESub.cons rfl rfl ESub.nil)))))
      (MSub.cons .here rfl (MSub.cons .here rfl (MSub.cons .here rfl (MSub.cons .here rfl (MSub.cons .here rfl (MSub.cons .here rfl MSub.nil)))))) ?_ ?_
    · refine ⟨?_, ?_⟩
      · (try dsimp only) <;> (first | omega | rfl | assumption | (simp; done))
      · (try dsimp only) <;> (rw [eL, show j = zeros xs.length by omega]; simp [lenB])
    intro gh N1 Gl1 hN1 hGl1 hF1
    obtain ⟨q, v, L⟩ := gh; dsimp only at hF1 hN1 ⊢
    obtain ⟨hq, eL⟩ := hF1
    have hK := hK.mono hGl1
    have lL : L.length = zeros xs.length + 1 + q := by rw [eL]; simp [lenB_len]; omega
    refine .seq ?_
    refine .seq ?_
    refine Wk.rg [0, 1] rfl rfl ?_
    refine mv rfl .no (.u rfl) ?_
    refine cp rfl .no (.u rfl) (.u rfl) rfl ?_
    refine .nil ?_
    refine .code ?_
    refine .cond rfl (fun c2 => ?_) (fun c2 => ?_)
    · have c2k := c2
      try simp only [decide_eq_true_eq, decide_eq_false_iff_not, Int.not_lt, Int.not_le, gt_iff_lt, ge_iff_le, Bool.or_eq_true, Bool.and_eq_true, Bool.or_eq_false_iff, Bool.not_eq_true', Bool.not_eq_false', Int.toNat_natCast, bne_iff_ne, beq_iff_eq, bne_eq_false_iff_eq, beq_eq_false_iff_ne, ne_eq] at c2
      refine .skip ?_
      refine .code ?_
      refine .seq ?_
      refine .block ?_
      refine Wk.rg [0, 1, 2, 3, 4, 5, 6, 7] rfl rfl ?_
      refine mv rfl .no (.u rfl) ?_
      refine mv rfl .no (.u rfl) ?_
      refine mv rfl .no (.u rfl) ?_
      refine rw' (k := .u64) rfl .no (.u rfl) (.u rfl) (fun _ => by omega) ?_
      refine cu (k := .u64) rfl .no rfl Fx.cv43_5 (.u rfl) ?_
      refine Go.Tan.b1 rfl Fx.se27 Fx.zv5 (.u rfl) rfl rfl (by decide) ?_; intro b53
      refine apY rfl Fx.se27 Fx.zv5 (.u rfl) (.u rfl) (.there .here) (Sc.one .here) (by show _ + 1 ≤ _; omega) ?_
      intro v54 L54 ov54 eL54
      have lL54 : L54.length = L.length + 1 := by rw [eL54, List.length_append]; first | rfl | simp [yl_len]
      refine asg rfl .no (.u rfl) ?_
      refine .nil ?_
      refine .blk ?_
      refine .code ?_
      refine Wk.rg [0, 1, 2] rfl rfl ?_
      refine mv rfl .no (.u rfl) ?_
      refine ar rfl .no (.u rfl) (.u rfl) rfl (fun _ => wrap_i64 (by omega) (by omega)) ?_
      refine asg rfl .no (.u rfl) ?_
      refine .nil ?_
      refine We.lpo (q + 1, v54, L54) ?_ ?_ ?_ ?_ ?_
      · exact (ESub.cons rfl rfl (ESub.cons rfl (by first | rfl | exact evi (by omega)) (ESub.cons rfl rfl (ESub.cons rfl rfl (ESub.cons rfl rfl ESub.nil)))))
      · exact (MSub.cons .here rfl (MSub.cons (.there .here) rfl (MSub.cons (.there .here) rfl (MSub.cons (.there .here) rfl (MSub.cons (.there .here) rfl (MSub.cons (.there .here) rfl MSub.nil))))))
      · first | omega | (dsimp only; omega)
      · exact hGl1
      · refine ⟨?_, ?_⟩
        · (try dsimp only) <;> (first | omega | rfl | assumption | (simp; done))
        · (try dsimp only) <;> (rw [eL54, eL, lenB_snoc, ← List.append_assoc, lenF_int (by omega)]; rfl)
    · have c2k := c2
      try simp only [decide_eq_true_eq, decide_eq_false_iff_not, Int.not_lt, Int.not_le, gt_iff_lt, ge_iff_le, Bool.or_eq_true, Bool.and_eq_true, Bool.or_eq_false_iff, Bool.not_eq_true', Bool.not_eq_false', Int.toNat_natCast, bne_iff_ne, beq_iff_eq, bne_eq_false_iff_eq, beq_eq_false_iff_ne, ne_eq] at c2
      refine .exit ?_
      refine .xcode ?_
      refine .xlp ?_
      refine .xblk ?_
      refine .code ?_
      refine .seq ?_
      have e8 : L = tailL xs.length := by rw [eL, show q = 8 by omega]; rfl
      subst e8
      have lt := tail_len xs.length
      have hz : zeros xs.length = (119 - xs.length % 64) % 64 := rfl
      refine wk_fb .here (keys_sub (MSub.cons (.there (.there (.there .here))) rfl (MSub.cons (.there (.there (.there .here))) rfl MSub.nil))) ?_; intro GfR31 hR31 hleR31 evR31 hsR31; subst evR31
      have hK := hK.mono hleR31
      refine Wk.rg [0, 1] rfl rfl ?_
      refine mv rfl .no (.u rfl) ?_
      refine ka rfl (.inr rfl) Fx.go73 (Eva.cons (.u rfl) (Eva.cons (.u rfl) Eva.nil)) (mtk2 .here .here) (put_ok xs (tailL xs.length) _ _ _ _ hsR31 hK (by omega)) ?_
      rintro _ G56 μ56 hG56 ⟨vq, rfl, rfl⟩
      have hK := hK.mono hG56
      have hsR31 := hsR31.mono hG56
      refine .nil ?_
      refine .code ?_
      refine .seq ?_
      refine Wk.rg [0] rfl rfl ?_
      refine al rfl Fx.zr42 ?_; intro b7
      refine .nil ?_
      refine .code ?_
      refine .seq ?_
      refine .seq ?_
      refine Wk.rg [0] rfl rfl ?_
      refine mv rfl .no (.u rfl) ?_
      refine .nil ?_
      refine .code ?_
      refine .block ?_
      refine Wk.lop (α := Nat × (Nat → Y)) (fun gh => [(57, true, .int .i64 (gh.1 : Int))]) (fun gh => [.blk b7 (cl (ba 32 gh.2) 42)])
        (fun gh Gl => (gh.1 ≤ 32) ∧ (gh.2 = outs (shaD xs) gh.1)) (fun gh => 32 - gh.1) (0, fun _ => 0#8) [(2, true, _), (3, true, _), (7, true, _)] [_, _, _, _, _]
        (ESub.cons rfl (by first | rfl | exact evi (by omega)) (ESub.cons rfl rfl (ESub.cons rfl rfl (ESub.cons rfl rfl ESub.nil))))
        (MSub.cons .here rfl (MSub.cons .here rfl (MSub.cons .here rfl (MSub.cons .here rfl (MSub.cons .here rfl (MSub.cons .here rfl MSub.nil)))))) ?_ ?_
      · refine ⟨?_, ?_⟩
        · (try dsimp only) <;> (first | omega | rfl | assumption | (simp; done))
        · (try dsimp only) <;> (first | omega | rfl | assumption | (simp; done))
      intro gh N2 Gl2 hN2 hGl2 hF2
      obtain ⟨i, f⟩ := gh; dsimp only at hF2 hN2 ⊢
      obtain ⟨hi, ef⟩ := hF2
      have hK := hK.mono hGl2
      have hsR31 := hsR31.mono hGl2
      refine .seq ?_
      refine Wk.rg [0] rfl rfl ?_
      refine cp rfl .no (.u rfl) (.u rfl) rfl ?_
      refine .nil ?_
      refine .code ?_
      refine .seq ?_
      refine .cond rfl (fun c3 => ?_) (fun c3 => ?_)
      · have c3k := c3
        try simp only [decide_eq_true_eq, decide_eq_false_iff_not, Int.not_lt, Int.not_le, gt_iff_lt, ge_iff_le, Bool.or_eq_true, Bool.and_eq_true, Bool.or_eq_false_iff, Bool.not_eq_true', Bool.not_eq_false', Int.toNat_natCast, bne_iff_ne, beq_iff_eq, bne_eq_false_iff_eq, beq_eq_false_iff_ne, ne_eq] at c3
        refine .skip ?_
        refine .code ?_
        refine .seq ?_
        refine .block ?_
        refine .seq ?_
        refine Wk.rg [0, 1] rfl rfl ?_
        refine mv rfl .no (.u rfl) ?_
        refine asg rfl .no (.u rfl) ?_
        refine .nil ?_
        refine .code ?_
        refine Wk.rg [0, 1, 2, 3, 4, 5, 6, 7, 8, 9, 10, 11, 12, 13] rfl rfl ?_
        refine mv rfl .no (.u rfl) ?_
        refine mv rfl .no (.u rfl) ?_
        refine qun (i) (4) rfl .no (.u rfl) (.u rfl) (fun _ => by omega) (fun _ => by omega) (fun _ => by first | decide | omega) (fun _ => by omega) ?_
        refine fz rfl .no Fx.fo114_0 (.u rfl) ?_
        refine iA rfl .no Fx.ar112 (.u rfl) (.u rfl) (fun _ => by omega) (fun _ => by omega) ?_
        refine ld rfl .no Fx.ag69 (.u rfl) (fun _ => Rd.own (.there .here) (by first | exact wa_at1 ((i / 4)) (by omega) (by omega) | exact ba_at1 ((i / 4)) (by omega) (by omega) | exact wap_at1 ((i / 4)) (by omega) (by omega) | rfl)) ?_
        refine mv rfl .no (.u rfl) ?_
        refine rmn (i) (4) rfl .no (.u rfl) (.u rfl) (fun _ => by omega) (fun _ => by omega) (fun _ => by first | decide | omega) ?_
        refine arn (((8 * (i % 4)) : Nat) : Int) rfl .no (.u rfl) (.u rfl) rfl (fun _ => by omega) (fun _ => wrap_i64 (by omega) (by omega)) ?_
        refine arn (((24 - 8 * (i % 4)) : Nat) : Int) rfl .no (.u rfl) (.u rfl) rfl (fun _ => by omega) (fun _ => wrap_i64 (by omega) (by omega)) ?_
        refine rw' (k := .u32) rfl .no (.u rfl) (.u rfl) (fun _ => by omega) ?_
        refine cu (k := .u32) rfl .no rfl Fx.cv69_5 (.u rfl) ?_
        refine iA rfl .no Fx.ar42 (.u rfl) (.u rfl) (fun _ => by omega) (fun _ => by omega) ?_
        refine s1 rfl (.u rfl) (.u rfl) rfl Fx.sz5 .here (by first | decide | (simp only [wa_len, ba_len, List.length_append, List.length_cons, List.length_nil]; omega)) (by first | exact wa_set1 (i) (by omega) | exact ba_set1 (i) (by omega) | exact wap_set1 (i) (by omega) (by omega) | rfl) ?_
        refine .nil ?_
        refine .blk ?_
        refine .code ?_
        refine Wk.rg [0, 1] rfl rfl ?_
        refine arn (((i + 1) : Nat) : Int) rfl .no (.u rfl) (.u rfl) rfl (fun _ => by omega) (fun _ => wrap_i64 (by omega) (by omega)) ?_
        refine mv rfl .no (.u rfl) ?_
        refine .nil ?_
        refine We.lpo (i + 1, upd f i (shaD xs i)) ?_ ?_ ?_ ?_ ?_
        · exact (ESub.cons rfl (by first | rfl | exact evi (by omega)) (ESub.cons rfl rfl (ESub.cons rfl rfl (ESub.cons rfl rfl ESub.nil))))
        · exact (MSub.cons .here rfl (MSub.cons .here rfl (MSub.cons .here rfl (MSub.cons .here rfl (MSub.cons .here rfl (MSub.cons .here rfl MSub.nil))))))
        · first | omega | (dsimp only; omega)
        · exact hGl2
        · refine ⟨?_, ?_⟩
          · (try dsimp only) <;> (first | omega | rfl | assumption | (simp; done))
          · (try dsimp only) <;> (rw [ef]; rfl)
      · have c3k := c3
        try simp only [decide_eq_true_eq, decide_eq_false_iff_not, Int.not_lt, Int.not_le, gt_iff_lt, ge_iff_le, Bool.or_eq_true, Bool.and_eq_true, Bool.or_eq_false_iff, Bool.not_eq_true', Bool.not_eq_false', Int.toNat_natCast, bne_iff_ne, beq_iff_eq, bne_eq_false_iff_eq, beq_eq_false_iff_ne, ne_eq] at c3
        refine .exit ?_
        refine .xcode ?_
        refine .xlp ?_
        refine .xblk ?_
        refine .code ?_
        refine .seq ?_
        refine Wk.rg [0, 1] rfl rfl ?_
        refine lA rfl .no Fx.ag42 (.u rfl) (fun _ => RdN.own .here) (fun _ => (by first | exact (ba_len _ _).trans (ba_len _ _).symm | exact (wa_len _ _).trans (wa_len _ _).symm | exact ba_len _ _ | exact wa_len _ _ | rfl | (simp only [wa_len, ba_len, List.length_append, List.length_cons, List.length_nil]))) ?_
        refine sw rfl (.u rfl) (.u rfl) rfl Fx.sz42 (.there (.there (.there .here))) (by first | exact (ba_len _ _).trans (ba_len _ _).symm | exact (wa_len _ _).trans (wa_len _ _).symm | exact ba_len _ _ | exact wa_len _ _ | rfl | (simp only [wa_len, ba_len, List.length_append, List.length_cons, List.length_nil])) (by first | exact ba_one _ _ | exact wa_one _ _ | exact one_V _ | decide | exact one_app (wa_one _ _) (by simp [Value.oneCell'])) ?_
        refine .nil ?_
        refine .code ?_
        refine .ret ?_
        refine We.fin Tryd.results55 (.cell rfl (fun w hw => run_loadVarN Fx.ag42 (RdN.own .here) ((by first | exact (ba_len _ _).trans (ba_len _ _).symm | exact (wa_len _ _).trans (wa_len _ _).symm | exact ba_len _ _ | exact wa_len _ _ | rfl | (simp only [wa_len, ba_len, List.length_append, List.length_cons, List.length_nil]))) hw) .nil) (MSub.cons (.there (.there (.there (.there .here)))) rfl (MSub.cons (.there (.there (.there (.there .here)))) rfl MSub.nil)) ?_
        obtain rfl : i = 32 := by omega
        exact ⟨rfl, by rw [ef, ba_congr (fun i hi => (outs_eq (shaD xs) hi).symm)]; rfl⟩

end Go.Proofs.YtoogjfldgeiapaaDoor
