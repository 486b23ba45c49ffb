/- Contracts of functions, walked. -/
import Derived.Test.YtoogjfldgeiapaaDoorWalQ
namespace Go.Proofs.YtoogjfldgeiapaaDoor
set_option linter.unusedSimpArgs false
set_option linter.unusedVariables false
open Go.Tan Go.RowKit

theorem SlP.three {G : PM} {b T : Nat} {h1 h2 h3 : Sh} {L1 L2 L3 : List Y} (hle : PM.le G (G.add b (cl [h1.val L1.length, h2.val L2.length, h3.val L3.length] T))) (hs : SlR G 1 encY h1 L1) (hs2 : SlR G 1 encY h2 L2) (hs3 : SlR G 1 encY h3 L3) :
    SlP (G.add b (cl [h1.val L1.length, h2.val L2.length, h3.val L3.length] T)) ⟨some ⟨b, 0, none⟩, 3⟩ [(h1, L1), (h2, L2), (h3, L3)] :=
  ⟨SlR.ofBlk (T := T) (PM.add_same _ _ _) (fun _ _ => rfl) (by simp), fun p hp => by
    simp only [List.mem_cons, List.not_mem_nil, or_false] at hp
    rcases hp with rfl | rfl | rfl
    · exact hs.mono hle
    · exact hs2.mono hle
    · exact hs3.mono hle⟩
theorem mac3_row {G : PM} {b c T T' E lo : Nat} {hk hu s : Sh} {key use L : List Y} {y : Y} (hsk : SlR G 1 encY hk key) (hsu : SlR G 1 encY hu use) (hK : RdNP G 1 0 (wa 64 kW)) (hlo : lo ≤ L.length) (hlk : key.length ≤ 140737488351232) (hl : L.length + use.length ≤ 100000000000000) :
    Ct Tryd.prog 33 ([hk.val key.length, .slice (some ⟨c, 0, none⟩) 3 3] : List Value).toArray G [rB (s.val L.length) E L, .blk b (cl [V y] T), .blk c (cl [(s.cut lo 1).val (L.length - lo), hu.val use.length, .slice (some ⟨b, 0, none⟩) 1 1] T')]
      (fun _ μ' u => ∃ ν, μ' = rB (s.val L.length) E L :: ν ∧ ∃ ν2, ν = .blk b (cl [V y] T) :: ν2 ∧ ∃ ν3, ν2 = .blk c (cl [(s.cut lo 1).val (L.length - lo), hu.val use.length, .slice (some ⟨b, 0, none⟩) 1 1] T') :: ν3 ∧ ν3 = [] ∧ u = .agg (ba 32 (macL key (L.drop lo ++ use ++ [y]))).toArray) :=
  Ct.lendB (fun s' G2 hle hv hs => Ct.lendK (fun h1 => Ct.lendK (fun h2 => by
    obtain rfl := Sh.val_inj hv
    have e1 : SlR G2 1 encY (s.cut lo 1) (L.drop lo) := by
      have := hs.cutn (lo := lo) (m := L.length - lo) (by omega)
      rwa [List.take_of_length_le (by simp)] at this
    have e2 : SlR (G2.add b (cl [V y] T)) 1 encY ⟨some ⟨b, 0, none⟩, 1⟩ [y] := SlR.ofBlk (T := T) (PM.add_same _ _ _) (fun _ _ => rfl) (by simp)
    have e3 : L.length - lo = (L.drop lo).length := by simp
    rw [e3] at h2 ⊢
    have hP := SlP.three (h1 := s.cut lo 1) (h2 := hu) (h3 := ⟨some ⟨b, 0, none⟩, 1⟩) h2 (e1.mono h1) ((hsu.mono hle).mono h1) e2
    have h := macSum_ok key hk _ ⟨some ⟨c, 0, none⟩, 3⟩ _ (((hsk.mono hle).mono h1).mono h2) hP (((hK.mono hle).mono h1).mono h2) hlk (by simp [catL]; omega) (by simp)
    rw [show catL [((s.cut lo 1), L.drop lo), (hu, use), ((⟨some ⟨b, 0, none⟩, 1⟩ : Sh), [y])] = L.drop lo ++ use ++ [y] by simp [catL]] at h
    exact h)))
theorem Expand_ok (key : List Y) (hk : Sh) (use : List Y) (hu : Sh) (G : PM) (hsk : SlR G 1 encY hk key) (hsu : SlR G 1 encY hu use) (hK : RdNP G 1 0 (wa 64 kW)) (hlk : key.length ≤ 1000) (hl : use.length ≤ 1000000) : Ct Tryd.prog 79 ([hk.val key.length, hu.val use.length, .int .i64 ((64 : Nat) : Int)] : List Value).toArray G [] (fun G' μ' u => ∃ s L, L = expL key use 2 ∧ μ' = [] ∧ u = .tuple #[s.val L.length, .int .i64 0] ∧ SlR G' 1 encY s L) := by
  refine Ct.of Tryd.func79 rfl Tryd.ntmps79 rfl fun w0 hs0 => ?_
  refine .seq ?_
  refine Wk.rg [0, 1] rfl rfl ?_
  refine asg rfl .no (.u rfl) ?_
  refine asg rfl .no (.u rfl) ?_
  refine .nil ?_
  refine .code ?_
  refine .seq ?_
  refine .seq ?_
  refine Wk.rg [0, 1, 2, 3, 4, 5] rfl rfl ?_
  refine mv rfl .no (.u rfl) ?_
  refine cp rfl .no (.u rfl) (.u rfl) rfl ?_
  refine mv rfl .no (.u rfl) ?_
  refine mv rfl (.f rfl rfl) (.u rfl) ?_
  refine cp rfl (.f rfl rfl) (.s rfl) (.u rfl) rfl ?_
  refine pkO rfl .no (.u rfl) (.s rfl) ?_
  refine .nil ?_
  refine .code ?_
  refine .cond rfl (fun c1 => ?_) (fun c1 => ?_)
  · have c1k := c1
    exact absurd c1 (by decide)
  · have c1k := c1
    try simp only [decide_eq_true_eq, decide_eq_false_iff_not, Int.not_lt, Int.not_le, gt_iff_lt, ge_iff_le, Bool.or_eq_true, Bool.and_eq_true, Bool.or_eq_false_iff, Bool.not_eq_true', Bool.not_eq_false', Int.toNat_natCast, bne_iff_ne, beq_iff_eq, bne_eq_false_iff_eq, beq_eq_false_iff_ne, ne_eq] at c1
    refine .skip ?_
    refine .code ?_
    refine .seq ?_
    refine Wk.rg [0, 1, 2, 3] rfl rfl ?_
    refine mv rfl .no (.u rfl) ?_
    refine arn (((64 + 32) : Nat) : Int) rfl .no (.u rfl) (.u rfl) rfl (fun _ => by omega) (fun _ => wrap_i64 (by omega) (by omega)) ?_
    refine mkY (0) ((64 + 32)) rfl Fx.se27 Fx.zv5 (.u rfl) (.u rfl) (by first | rfl | omega) (by first | rfl | omega) (by omega) (by omega) ?_; intro b19
    have lR19 : (List.replicate (0) (0#8 : Y)).length = 0 := List.length_replicate
    refine asg rfl .no (.u rfl) ?_
    refine .nil ?_
    refine .code ?_
    refine .seq ?_
    refine .seq ?_
    refine Wk.rg [0] rfl rfl ?_
    refine asg rfl .no (.u rfl) ?_
    refine .nil ?_
    refine .code ?_
    refine .block ?_
    refine Wk.lop (α := Nat × Value × List Y) (fun gh => [(8, true, gh.2.1), (9, true, V (BitVec.ofNat 8 (gh.1 + 1)))]) (fun gh => [rB gh.2.1 5 gh.2.2])
      (fun gh Gl => (gh.1 ≤ 2) ∧ (gh.2.2 = expL key use gh.1)) (fun gh => 2 - gh.1) (0, _, _) [(0, true, _), (1, true, _), (2, true, _)] []
      (ESub.cons rfl rfl (ESub.cons rfl rfl (ESub.cons rfl rfl (ESub.cons rfl rfl (ESub.cons rfl rfl ESub.nil)))))
      (MSub.cons .here rfl MSub.nil) ?_ ?_
    · refine ⟨?_, ?_⟩
      · (try dsimp only) <;> (first | omega | rfl | assumption | (simp; done))
      · (try dsimp only) <;> (rfl)
    intro gh N0 Gl0 hN0 hGl0 hF0
    obtain ⟨j, v, L⟩ := gh; dsimp only at hF0 hN0 ⊢
    obtain ⟨hj, eL⟩ := hF0
    have hsk := hsk.mono hGl0
    have hsu := hsu.mono hGl0
    have hK := hK.mono hGl0
    have lL : L.length = 32 * j := by rw [eL, exp_len]
    refine .seq ?_
    refine .seq ?_
    refine Wk.rg [0, 1, 2, 3] rfl rfl ?_
    refine mv rfl .no (.u rfl) ?_
    refine lr rfl .no Fx.sn27 (.u rfl) .here ?_
    refine mv rfl .no (.u rfl) ?_
    refine cp rfl .no (.u rfl) (.u rfl) rfl ?_
    refine .nil ?_
    refine .code ?_
    refine .cond rfl (fun c2 => ?_) (fun c2 => ?_)
    · have c2k := c2
      try simp only [decide_eq_true_eq, decide_eq_false_iff_not, Int.not_lt, Int.not_le, gt_iff_lt, ge_iff_le, Bool.or_eq_true, Bool.and_eq_true, Bool.or_eq_false_iff, Bool.not_eq_true', Bool.not_eq_false', Int.toNat_natCast, bne_iff_ne, beq_iff_eq, bne_eq_false_iff_eq, beq_eq_false_iff_ne, ne_eq] at c2
      refine .skip ?_
      refine .code ?_
      refine .seq ?_
      refine .block ?_
      refine .seq ?_
      refine wk_rs .here ?_; intro sR19 bbR19 evR19 lcR19 oaR19; subst evR19
      refine Wk.rg [0, 1, 2, 3, 4, 5, 6, 7, 8, 9, 10, 11, 12, 13] rfl rfl ?_
      refine mv rfl .no (.u rfl) ?_
      refine mv rfl .no (.u rfl) ?_
      refine mv rfl .no (.u rfl) ?_
      refine lr rfl .no Fx.sn27 (.u rfl) .here ?_
      refine ar rfl .no (.u rfl) (.u rfl) rfl (fun _ => wrap_i64 (by omega) (by omega)) ?_
      refine mAq ((32 * j - 32 : Nat) : Int) rfl (.u rfl) (.u rfl) (by split <;> omega) ?_
      refine sd rfl .no Fx.se27 (.u rfl) (.u rfl) (fun _ => by omega) (fun _ => by omega) ?_
      refine mv rfl .no (.u rfl) ?_
      refine mv rfl .no (.u rfl) ?_
      refine Go.Tan.b1 rfl Fx.se27 Fx.zv5 (.u rfl) rfl rfl (by decide) ?_; intro b35
      refine Go.Tan.bN rfl Fx.se50 Fx.zv27 (Evp.cons (.u rfl) (Evp.cons (.u rfl) (Evp.cons (.u rfl) Evp.nil))) rfl (by decide) (by simp [Value.oneCell', Sh.val]) ?_; intro b36
      refine ka rfl (.inr rfl) Fx.go33 (Eva.cons (.u rfl) (Eva.cons (.u rfl) Eva.nil)) (mtk3 (.there (.there .here)) (.there .here) .here) (mac3_row (lo := 32 * j - 32) hsk hsu hK (by omega) (by omega) (by omega)) ?_
      rintro _ G37 μ37 hG37 ⟨_, rfl, _, rfl, _, rfl, rfl, rfl⟩
      have hsk := hsk.mono hG37
      have hsu := hsu.mono hG37
      have hK := hK.mono hG37
      refine al rfl Fx.zr42 ?_; intro b10
      refine sw rfl (.u rfl) (.u rfl) rfl Fx.sz42 .here (by first | exact (ba_len _ _).trans (ba_len _ _).symm | exact (wa_len _ _).trans (wa_len _ _).symm | exact ba_len _ _ | exact wa_len _ _ | rfl | (simp only [wa_len, ba_len, List.length_append, List.length_cons, List.length_nil])) (by first | exact ba_one _ _ | exact wa_one _ _ | exact one_V _ | decide | exact one_app (wa_one _ _) (by simp [Value.oneCell'])) ?_
      refine .nil ?_
      refine .code ?_
      refine Wk.rg [0, 1, 2, 3] rfl rfl ?_
      refine mv rfl .no (.u rfl) ?_
      refine sa0 rfl .no Fx.ar42 (.u rfl) ?_
      refine apY rfl Fx.se27 Fx.zv5 (.u rfl) (.u rfl) (.there .here) (Sc.arr .here) (by (try simp only [List.length_append, List.length_cons, List.length_nil, yl_len]); omega) ?_
      intro v40 L40 ov40 eL40
      have lL40 : L40.length = L.length + 32 := by rw [eL40, List.length_append]; first | rfl | simp [yl_len]
      refine asg rfl .no (.u rfl) ?_
      refine .nil ?_
      refine .blk ?_
      refine .code ?_
      refine Wk.rg [0, 1, 2] rfl rfl ?_
      refine mv rfl .no (.u rfl) ?_
      refine bw (k := .u8) (b := 1#8) rfl .no rfl (.u rfl) (.u rfl) rfl ?_
      refine asg rfl .no (.u rfl) ?_
      refine .nil ?_
      refine We.lpo (j + 1, v40, L40) ?_ ?_ ?_ ?_ ?_
      · exact (ESub.cons rfl rfl (ESub.cons rfl (by show V (BitVec.ofNat 8 (j + 1) + 1#8) = _; rw [← BitVec.ofNat_add]) (ESub.cons rfl rfl (ESub.cons rfl rfl (ESub.cons rfl rfl ESub.nil)))))
      · exact (MSub.cons .here rfl MSub.nil)
      · first | omega | (dsimp only; omega)
      · exact (hGl0).trans hG37
      · refine ⟨?_, ?_⟩
        · (try dsimp only) <;> (first | omega | rfl | assumption | (simp; done))
        · (try dsimp only) <;> (rw [eL40, eL, exp_last]; rfl)
    · have c2k := c2
      try simp only [decide_eq_true_eq, decide_eq_false_iff_not, Int.not_lt, Int.not_le, gt_iff_lt, ge_iff_le, Bool.or_eq_true, Bool.and_eq_true, Bool.or_eq_false_iff, Bool.not_eq_true', Bool.not_eq_false', Int.toNat_natCast, bne_iff_ne, beq_iff_eq, bne_eq_false_iff_eq, beq_eq_false_iff_ne, ne_eq] at c2
      refine .exit ?_
      refine .xcode ?_
      refine .xlp ?_
      refine .xblk ?_
      refine .code ?_
      refine .seq ?_
      refine wk_fb .here (by first | (intro b hb; cases hb; done) | simp [keys, Res.keys]) ?_; intro GfR19 hR19 hleR19 evR19 hsR19; subst evR19
      have hsk := hsk.mono hleR19
      have hsu := hsu.mono hleR19
      have hK := hK.mono hleR19
      refine Wk.rg [0, 1, 2, 3, 4, 5] rfl rfl ?_
      refine mv rfl .no (.u rfl) ?_
      refine mv rfl .no (.u rfl) ?_
      refine mv rfl .no (.u rfl) ?_
      refine kM 64 rfl Fx.se27 hsR19 (.u rfl) (.u rfl) (.u rfl) (by omega) ?_; intro h44 L44 eL44 lL44 hs44
      refine asg rfl .no (.u rfl) ?_
      refine asg rfl .no (.u rfl) ?_
      refine .nil ?_
      refine .code ?_
      refine .ret ?_
      refine We.fin0 Tryd.results79 (.tmp rfl (.tmp rfl .nil)) ?_
      obtain rfl : j = 2 := by omega
      exact ⟨h44, L44, by rw [eL44, eL]; exact List.take_of_length_le (by rw [exp_len]; omega), rfl, rfl, hs44⟩

end Go.Proofs.YtoogjfldgeiapaaDoor
