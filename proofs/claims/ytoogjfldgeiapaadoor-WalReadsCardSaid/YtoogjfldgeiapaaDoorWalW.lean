/- Contracts of functions, walked. -/
import Derived.Test.YtoogjfldgeiapaaDoorWalV
namespace Go.Proofs.YtoogjfldgeiapaaDoor
set_option linter.unusedSimpArgs false
set_option linter.unusedVariables false
open Go.Tan Go.RowKit

namespace Fx
theorem zr52 : zrL Tryd.prog 52 = some ([V 0#8, V 0#8, uv .u64 0#64, uv .u64 0#64, uv .u64 0#64, .slice none 0 0, .int .i64 0, .bool false]) := by kernel_rfl
theorem bp52_3 : bPl Tryd.prog 52 [3] = some ([V 0#8, V 0#8, uv .u64 0#64, uv .u64 0#64, uv .u64 0#64, .slice none 0 0, .int .i64 0, .bool false], [(7, 1)]) := by kernel_rfl
theorem sz52 : szT Tryd.prog 52 = some 8 := by kernel_rfl
theorem ag52 : aggN Tryd.prog 52 = some (some 8) := by kernel_rfl
theorem go46 : goFn Tryd.prog 46 = true := by kernel_rfl
theorem bp52_ : bPl Tryd.prog 52 [] = some ([V 0#8, V 0#8, uv .u64 0#64, uv .u64 0#64, uv .u64 0#64, .slice none 0 0, .int .i64 0, .bool false], []) := by kernel_rfl
theorem bp42_ : bPl Tryd.prog 42 [] = some (ba 32 (fun _ => 0#8), []) := by kernel_rfl
theorem bp45_0 : bPl Tryd.prog 45 [0] = some ([V 0#8, V 0#8, uv .u64 0#64, uv .u64 0#64, uv .u64 0#64], [(0, 1)]) := by kernel_rfl
theorem go23 : goFn Tryd.prog 23 = true := by kernel_rfl
theorem go25 : goFn Tryd.prog 25 = true := by kernel_rfl
theorem fo52_3 : fOff Tryd.prog 52 3 = some 7 := by kernel_rfl
theorem ag4 : aggN Tryd.prog 4 = some none := by kernel_rfl
end Fx
theorem wReadS_ok (root : Nat → Y) (xs : List Y) (hx : Sh) (G : PM) (hs : SlR G 1 encY hx xs) (hl : xs.length < 30) : Ct Tryd.prog 25 ([.agg (ba 32 root).toArray, hx.val xs.length] : List Value).toArray G [] (fun _ μ' u => μ' = [] ∧ u = .tuple #[.agg ([V Hd.zero.kind, V Hd.zero.level, uv .u64 Hd.zero.gen, uv .u64 Hd.zero.epoch, uv .u64 Hd.zero.num, .slice none 0 0, .int .i64 0, .bool true] : List Value).toArray, .int .i64 0]) := by
  refine Ct.of Tryd.func25 rfl Tryd.ntmps25 rfl fun w0 hs0 => ?_
  refine .seq ?_
  refine Wk.rg [0, 1, 2] rfl rfl ?_
  refine bx rfl (.u rfl) rfl ?_; intro b2
  refine al rfl Fx.zr52 ?_; intro b4
  refine asg rfl .no (.u rfl) ?_
  refine .nil ?_
  refine .code ?_
  refine .seq ?_
  refine .seq ?_
  refine Wk.rg [0, 1, 2] rfl rfl ?_
  refine mv rfl .no (.u rfl) ?_
  refine ln rfl .no Fx.sn27 (.u rfl) ?_
  refine cp rfl .no (.u rfl) (.u rfl) rfl ?_
  refine .nil ?_
  refine .code ?_
  refine .cond rfl (fun c1 => ?_) (fun c1 => ?_)
  · have c1k := c1
    try simp only [decide_eq_true_eq, decide_eq_false_iff_not, Int.not_lt, Int.not_le, gt_iff_lt, ge_iff_le, Bool.or_eq_true, Bool.and_eq_true, Bool.or_eq_false_iff, Bool.not_eq_true', Bool.not_eq_false', Int.toNat_natCast, bne_iff_ne, beq_iff_eq, bne_eq_false_iff_eq, beq_eq_false_iff_ne, ne_eq] at c1
    refine .seq ?_
    refine Wk.rg [0, 1, 2] rfl rfl ?_
    refine bC rfl .no Fx.bp52_3 (.cons (.u rfl) rfl .nil) rfl ?_
    refine sw rfl (.u rfl) (.u rfl) rfl Fx.sz52 .here (by first | exact (ba_len _ _).trans (ba_len _ _).symm | exact (wa_len _ _).trans (wa_len _ _).symm | exact ba_len _ _ | exact wa_len _ _ | rfl | (simp only [wa_len, ba_len, List.length_append, List.length_cons, List.length_nil])) (one8 rfl rfl rfl rfl rfl rfl rfl rfl) ?_
    refine asg rfl .no (.u rfl) ?_
    refine .nil ?_
    refine .code ?_
    refine .ret ?_
    refine We.fin0 Tryd.results25 (.cell rfl (fun w hw => run_loadVarN Fx.ag52 (RdN.own .here) ((by first | exact (ba_len _ _).trans (ba_len _ _).symm | exact (wa_len _ _).trans (wa_len _ _).symm | exact ba_len _ _ | exact wa_len _ _ | rfl | (simp only [wa_len, ba_len, List.length_append, List.length_cons, List.length_nil]))) hw) (.tmp rfl .nil)) ?_
    exact ⟨rfl, rfl⟩
  · have c1k := c1
    try simp only [decide_eq_true_eq, decide_eq_false_iff_not, Int.not_lt, Int.not_le, gt_iff_lt, ge_iff_le, Bool.or_eq_true, Bool.and_eq_true, Bool.or_eq_false_iff, Bool.not_eq_true', Bool.not_eq_false', Int.toNat_natCast, bne_iff_ne, beq_iff_eq, bne_eq_false_iff_eq, beq_eq_false_iff_ne, ne_eq] at c1
    exfalso; omega

theorem wReadB_ok (root : Nat → Y) (xs : List Y) (hx : Sh) (G : PM) (hs : SlR G 1 encY hx xs) (hl : 30 ≤ xs.length) (hm : xs.length ≤ 100000000000000) (hb : takeH xs = (Hd.zero, 70)) : Ct Tryd.prog 25 ([.agg (ba 32 root).toArray, hx.val xs.length] : List Value).toArray G [] (fun _ μ' u => μ' = [] ∧ u = .tuple #[.agg ([V Hd.zero.kind, V Hd.zero.level, uv .u64 Hd.zero.gen, uv .u64 Hd.zero.epoch, uv .u64 Hd.zero.num, .slice none 0 0, .int .i64 0, .bool false] : List Value).toArray, .int .i64 70]) := by
  refine Ct.of Tryd.func25 rfl Tryd.ntmps25 rfl fun w0 hs0 => ?_
  refine .seq ?_
  refine Wk.rg [0, 1, 2] rfl rfl ?_
  refine bx rfl (.u rfl) rfl ?_; intro b2
  refine al rfl Fx.zr52 ?_; intro b4
  refine asg rfl .no (.u rfl) ?_
  refine .nil ?_
  refine .code ?_
  refine .seq ?_
  refine .seq ?_
  refine Wk.rg [0, 1, 2] rfl rfl ?_
  refine mv rfl .no (.u rfl) ?_
  refine ln rfl .no Fx.sn27 (.u rfl) ?_
  refine cp rfl .no (.u rfl) (.u rfl) rfl ?_
  refine .nil ?_
  refine .code ?_
  refine .cond rfl (fun c1 => ?_) (fun c1 => ?_)
  · have c1k := c1
    try simp only [decide_eq_true_eq, decide_eq_false_iff_not, Int.not_lt, Int.not_le, gt_iff_lt, ge_iff_le, Bool.or_eq_true, Bool.and_eq_true, Bool.or_eq_false_iff, Bool.not_eq_true', Bool.not_eq_false', Int.toNat_natCast, bne_iff_ne, beq_iff_eq, bne_eq_false_iff_eq, beq_eq_false_iff_ne, ne_eq] at c1
    exfalso; omega
  · have c1k := c1
    try simp only [decide_eq_true_eq, decide_eq_false_iff_not, Int.not_lt, Int.not_le, gt_iff_lt, ge_iff_le, Bool.or_eq_true, Bool.and_eq_true, Bool.or_eq_false_iff, Bool.not_eq_true', Bool.not_eq_false', Int.toNat_natCast, bne_iff_ne, beq_iff_eq, bne_eq_false_iff_eq, beq_eq_false_iff_ne, ne_eq] at c1
    refine .skip ?_
    refine .code ?_
    refine .seq ?_
    refine Wk.rg [0, 1, 2, 3, 4, 5, 6, 7] rfl rfl ?_
    refine mv rfl .no (.u rfl) ?_
    refine kv rfl .no Fx.go46 (Eva.cons (.u rfl) Eva.nil) (fun _ => Take_ok xs hx _ hs hm) ?_
    refine mv rfl .no (.u rfl) ?_
    refine ex rfl .no (.u rfl) rfl ?_
    refine ex rfl .no (.u rfl) rfl ?_
    refine al rfl Fx.zr45 ?_; intro b6
    refine sw rfl (.u rfl) (.u rfl) rfl Fx.sz45 .here (by first | exact (ba_len _ _).trans (ba_len _ _).symm | exact (wa_len _ _).trans (wa_len _ _).symm | exact ba_len _ _ | exact wa_len _ _ | rfl | (simp only [wa_len, ba_len, List.length_append, List.length_cons, List.length_nil])) (one5 rfl rfl rfl rfl rfl) ?_
    refine asg rfl .no (.u rfl) ?_
    refine .nil ?_
    refine .code ?_
    refine .seq ?_
    refine .seq ?_
    refine Wk.rg [0, 1] rfl rfl ?_
    refine mv rfl .no (.u rfl) ?_
    refine cp rfl .no (.u rfl) (.u rfl) rfl ?_
    refine .nil ?_
    refine .code ?_
    refine .cond rfl (fun c2 => ?_) (fun c2 => ?_)
    · have c2k := c2
      try simp only [decide_eq_true_eq, decide_eq_false_iff_not, Int.not_lt, Int.not_le, gt_iff_lt, ge_iff_le, Bool.or_eq_true, Bool.and_eq_true, Bool.or_eq_false_iff, Bool.not_eq_true', Bool.not_eq_false', Int.toNat_natCast, bne_iff_ne, beq_iff_eq, bne_eq_false_iff_eq, beq_eq_false_iff_ne, ne_eq] at c2
      refine .seq ?_
      refine Wk.rg [0, 1, 2, 3] rfl rfl ?_
      refine bC rfl .no Fx.bp52_ .nil rfl ?_
      refine mv rfl .no (.u rfl) ?_
      refine sw rfl (.u rfl) (.u rfl) rfl Fx.sz52 (.there .here) (by first | exact (ba_len _ _).trans (ba_len _ _).symm | exact (wa_len _ _).trans (wa_len _ _).symm | exact ba_len _ _ | exact wa_len _ _ | rfl | (simp only [wa_len, ba_len, List.length_append, List.length_cons, List.length_nil])) (one8 rfl rfl rfl rfl rfl rfl rfl rfl) ?_
      refine asg rfl .no (.u rfl) ?_
      refine .nil ?_
      refine .code ?_
      refine .ret ?_
      refine We.fin0 Tryd.results25 (.cell rfl (fun w hw => run_loadVarN Fx.ag52 (RdN.own .here) ((by first | exact (ba_len _ _).trans (ba_len _ _).symm | exact (wa_len _ _).trans (wa_len _ _).symm | exact ba_len _ _ | exact wa_len _ _ | rfl | (simp only [wa_len, ba_len, List.length_append, List.length_cons, List.length_nil]))) hw) (.tmp rfl .nil)) ?_
      exact ⟨rfl, by rw [hb]; rfl⟩
    · have c2k := c2
      rw [hb] at c2; cases c2

theorem wReadB_row (root : Nat → Y) (xs : List Y) (v : Value) (G : PM) (hl : 30 ≤ xs.length) (hm : xs.length ≤ 100000000000000) (hb : takeH xs = (Hd.zero, 70)) : Ct Tryd.prog 25 ([.agg (ba 32 root).toArray, v] : List Value).toArray G [rB v 5 xs] (fun _ μ' u => ∃ ν, μ' = rB v 5 xs :: ν ∧ ν = [] ∧ u = .tuple #[.agg ([V Hd.zero.kind, V Hd.zero.level, uv .u64 Hd.zero.gen, uv .u64 Hd.zero.epoch, uv .u64 Hd.zero.num, .slice none 0 0, .int .i64 0, .bool false] : List Value).toArray, .int .i64 70]) :=
  Ct.lendB (fun hx G2 hle hv hs => by subst hv; exact wReadB_ok root xs hx G2 hs hl hm hb)
theorem shown16_ok (G : PM) (hK : RdNP G 1 0 (wa 64 kW)) : Ct Tryd.prog 22 ([] : List Value).toArray G [] (fun _ μ' u => μ' = [] ∧ u = .bool true) := by
  refine Ct.of Tryd.func22 rfl Tryd.ntmps22 rfl fun w0 hs0 => ?_
  refine .seq ?_
  refine Wk.rg [0] rfl rfl ?_
  refine asg rfl .no (.u rfl) ?_
  refine .nil ?_
  refine .code ?_
  refine .seq ?_
  refine Wk.rg [0, 1, 2, 3, 4, 5, 6, 7] rfl rfl ?_
  refine bCe (ba 32 zF) rfl .no Fx.bp42_ .nil rfl (rfl) ?_
  refine bCe ([V 1#8, V 0#8, uv .u64 0#64, uv .u64 0#64, uv .u64 0#64]) rfl .no Fx.bp45_0 (.cons (.u rfl) rfl .nil) rfl (rfl) ?_
  refine kc rfl Fx.go23 (Eva.cons (.u rfl) (Eva.cons (.u rfl) (Eva.cons (.u rfl) (Eva.cons (.u rfl) Eva.nil)))) (wLay_ok zF ⟨1, 0, 0, 0, 0⟩ 0#64 [] ⟨none, 0⟩ _ SlR.nul hK) ?_
  rintro _ G10 μ10 hG10 ⟨v10, L10, e10, hL10, rfl, rfl⟩
  have hK := hK.mono hG10
  refine mv rfl .no (.u rfl) ?_
  refine ex rfl .no (.u rfl) rfl ?_
  refine ex rfl .no (.u rfl) rfl ?_
  refine asg rfl .no (.u rfl) ?_
  refine asg rfl .no (.u rfl) ?_
  refine .nil ?_
  obtain ⟨lL10, eK10, ee10⟩ := lay_shown hL10
  refine .code ?_
  refine .seq ?_
  refine Wk.rg [0, 1, 2, 3, 4, 5, 6, 7] rfl rfl ?_
  refine bCe (ba 32 zF) rfl .no Fx.bp42_ .nil rfl (rfl) ?_
  refine kv rfl .no Fx.go25 (Eva.cons (.u rfl) (Eva.cons (.u rfl) Eva.nil)) (fun _ => wReadS_ok zF [] ⟨none, 0⟩ _ SlR.nul (by simp)) ?_
  refine mv rfl .no (.u rfl) ?_
  refine ex rfl .no (.u rfl) rfl ?_
  refine ex rfl .no (.u rfl) rfl ?_
  refine al rfl Fx.zr52 ?_; intro b3
  refine sw rfl (.u rfl) (.u rfl) rfl Fx.sz52 .here (by first | exact (ba_len _ _).trans (ba_len _ _).symm | exact (wa_len _ _).trans (wa_len _ _).symm | exact ba_len _ _ | exact wa_len _ _ | rfl | (simp only [wa_len, ba_len, List.length_append, List.length_cons, List.length_nil])) (one8 rfl rfl rfl rfl rfl rfl rfl rfl) ?_
  refine asg rfl .no (.u rfl) ?_
  refine .nil ?_
  refine .code ?_
  refine .seq ?_
  refine Wk.rg [0, 1, 2, 3, 4, 5, 6, 7, 8] rfl rfl ?_
  refine bCe (ba 32 zF) rfl .no Fx.bp42_ .nil rfl (rfl) ?_
  refine mkY (30) (30) rfl Fx.se27 Fx.zv5 (.u rfl) (.u rfl) (by first | rfl | omega) (by first | rfl | omega) (by omega) (by omega) ?_; intro b20
  have lR20 : (List.replicate (30) (0#8 : Y)).length = 30 := List.length_replicate
  refine ka rfl (.inr rfl) Fx.go25 (Eva.cons (.u rfl) (Eva.cons (.u rfl) Eva.nil)) (mtk1 .here) (wReadB_row zF (List.replicate 30 0#8) _ _ (by simp) (by simp) take_zero) ?_
  rintro _ G21 μ21 hG21 ⟨_, rfl, rfl, rfl⟩
  have hK := hK.mono hG21
  refine mv rfl .no (.u rfl) ?_
  refine ex rfl .no (.u rfl) rfl ?_
  refine ex rfl .no (.u rfl) rfl ?_
  refine al rfl Fx.zr52 ?_; intro b5
  refine sw rfl (.u rfl) (.u rfl) rfl Fx.sz52 .here (by first | exact (ba_len _ _).trans (ba_len _ _).symm | exact (wa_len _ _).trans (wa_len _ _).symm | exact ba_len _ _ | exact wa_len _ _ | rfl | (simp only [wa_len, ba_len, List.length_append, List.length_cons, List.length_nil])) (one8 rfl rfl rfl rfl rfl rfl rfl rfl) ?_
  refine asg rfl .no (.u rfl) ?_
  refine .nil ?_
  refine .code ?_
  refine .seq ?_
  refine wk_fb (.there (.there (.there .here))) (by first | (intro b hb; cases hb; done) | simp [keys, Res.keys]) ?_; intro GfR10 hR10 hleR10 evR10 hsR10; subst evR10
  have hK := hK.mono hleR10
  refine Wk.rg [0, 1, 2, 3, 4, 5, 6, 7, 8, 9, 10, 11, 12, 13, 14, 15, 16, 17, 18, 19, 20, 21, 22, 23, 24, 25] rfl rfl ?_
  refine mv rfl .no (.u rfl) ?_
  refine ln rfl .no Fx.sn27 (.u rfl) ?_
  refine cp rfl .no (.u rfl) (.u rfl) rfl ?_
  refine mv rfl .no (.u rfl) ?_
  refine mv rfl (.t rfl rfl) (.u rfl) ?_
  refine ih rfl (.t rfl rfl) Fx.se27 (.s rfl) (.u rfl) (fun hc => by omega) (fun hc => by omega) (fun hc => hsR10.nn (k := 6) (by omega)) ?_
  refine ld rfl (.t rfl rfl) Fx.ag5 (.s rfl) (fun hc => (hsR10.yat (6) (by omega) (by omega)).rd) ?_
  refine cp rfl (.t rfl rfl) (.s rfl) (.u rfl) rfl ?_
  refine pkA rfl .no (.u rfl) (.s rfl) ?_
  refine mv rfl .no (.u rfl) ?_
  refine mv rfl (.t rfl rfl) (.u rfl) ?_
  refine cp rfl (.t rfl rfl) (.s rfl) (.u rfl) rfl ?_
  refine pkA rfl .no (.u rfl) (.s rfl) ?_
  refine mv rfl .no (.u rfl) ?_
  refine fz rfl (.t rfl rfl) Fx.fo52_3 (.u rfl) ?_
  refine ld rfl (.t rfl rfl) Fx.ag4 (.s rfl) (fun hc => Rd.own (.there (.there .here)) (by first | exact wap_f rfl | rfl)) ?_
  refine pkA rfl .no (.u rfl) (.s rfl) ?_
  refine mv rfl .no (.u rfl) ?_
  refine mv rfl (.t rfl rfl) (.u rfl) ?_
  refine cp rfl (.t rfl rfl) (.s rfl) (.u rfl) rfl ?_
  refine pkA rfl .no (.u rfl) (.s rfl) ?_
  refine mv rfl .no (.u rfl) ?_
  refine mv rfl (.t rfl rfl) (.u rfl) ?_
  refine cp rfl (.t rfl rfl) (.s rfl) (.u rfl) rfl ?_
  refine pkA rfl .no (.u rfl) (.s rfl) ?_
  refine asg rfl .no (.u rfl) ?_
  refine .nil ?_
  refine .code ?_
  refine .ret ?_
  refine We.fin0 Tryd.results22 (.tmp rfl .nil) ?_
  refine ⟨rfl, congrArg Value.bool ?_⟩
  rw [lL10, eK10, ee10]; rfl

end Go.Proofs.YtoogjfldgeiapaaDoor
