/- Contracts of functions, walked. -/
import Derived.Test.YtoogjfldgeiapaaDoorSealV
namespace Go.Proofs.YtoogjfldgeiapaaDoor
set_option linter.unusedSimpArgs false
set_option linter.unusedVariables false
open Go.Tan Go.RowKit

namespace Fx
theorem go15 : goFn Tryd.prog 15 = true := by kernel_rfl
theorem fo29_0 : fOff Tryd.prog 29 0 = some 0 := by kernel_rfl
theorem fo29_1 : fOff Tryd.prog 29 1 = some 64 := by kernel_rfl
theorem fo29_2 : fOff Tryd.prog 29 2 = some 76 := by kernel_rfl
theorem bt4 : boolT Tryd.prog 4 = true := by kernel_rfl
theorem ar40 : arE Tryd.prog 40 = some (2, 39, 1) := by kernel_rfl
theorem ag39 : aggN Tryd.prog 39 = some none := by kernel_rfl
theorem cv39_3 : cvK Tryd.prog 39 3 = some .i64 := by kernel_rfl
theorem cv39_5 : cvK Tryd.prog 39 5 = some .u8 := by kernel_rfl
end Fx
theorem SealBack_ok (enc mac nonce : Nat → Y) (ad : List Y) (ha : Sh) (xs : List Y) (hx : Sh) (G : PM) (hsa : SlR G 1 encY ha ad) (hsx : SlR G 1 encY hx xs) (hK : RdNP G 1 0 (wa 64 kW)) (hla : ad.length ≤ 140737488351232) (hl : xs.length ≤ 140737488351232) : Ct Tryd.prog 5 ([.agg (withC enc mac nonce (ha.val ad.length)).toArray, hx.val xs.length] : List Value).toArray G [] (fun _ μ' u => μ' = [] ∧ u = .bool true) := by
  refine Ct.of Tryd.func5 rfl Tryd.ntmps5 rfl fun w0 hs0 => ?_
  refine .seq ?_
  refine Wk.rg [0, 1] rfl rfl ?_
  refine bx rfl (.u rfl) rfl ?_; intro b2
  refine asg rfl .no (.u rfl) ?_
  refine .nil ?_
  refine .code ?_
  refine .seq ?_
  refine wk_fz .here (by intro b hb; cases hb) ?_; intro Gfb2 hleb2 hbb2
  have hsa := hsa.mono hleb2
  have hsx := hsx.mono hleb2
  have hK := hK.mono hleb2
  refine Wk.rg [0, 1] rfl rfl ?_
  refine kv rfl .no Fx.go15 Eva.nil (fun _ => shown_ok _ hK) ?_
  refine asg rfl .no (.u rfl) ?_
  refine .nil ?_
  refine .code ?_
  refine .seq ?_
  refine Wk.rg [0, 1, 2] rfl rfl ?_
  refine mv rfl .no (.u rfl) ?_
  refine sB rfl .no Fx.bs27_9 (.u rfl) (fun _ => hsx.sc) ?_
  refine asg rfl .no (.u rfl) ?_
  refine .nil ?_
  refine .code ?_
  refine .seq ?_
  refine Wk.rg [0, 1, 2, 3, 4, 5, 6, 7, 8] rfl rfl ?_
  refine fa rfl .no Fx.fo29_0 (.u rfl) ?_
  refine lA rfl .no Fx.ag24 (.u rfl) (fun _ => (hbb2.rdn (m := 64) (cs' := ba 32 enc ++ ba 32 mac) (with_k)).rd) (fun _ => (by first | exact (ba_len _ _).trans (ba_len _ _).symm | exact (wa_len _ _).trans (wa_len _ _).symm | exact ba_len _ _ | exact wa_len _ _ | rfl | (simp only [wa_len, ba_len, List.length_append, List.length_cons, List.length_nil]))) ?_
  refine fa rfl .no Fx.fo29_1 (.u rfl) ?_
  refine lA rfl .no Fx.ag26 (.u rfl) (fun _ => (hbb2.rdn (m := 12) (cs' := ba 12 nonce) (with_n)).rd) (fun _ => (by first | exact (ba_len _ _).trans (ba_len _ _).symm | exact (wa_len _ _).trans (wa_len _ _).symm | exact ba_len _ _ | exact wa_len _ _ | rfl | (simp only [wa_len, ba_len, List.length_append, List.length_cons, List.length_nil]))) ?_
  refine fa rfl .no Fx.fo29_2 (.u rfl) ?_
  refine ld rfl .no Fx.ag27 (.u rfl) (fun _ => (hbb2.rd (with_a)).rd) ?_
  refine mv rfl .no (.u rfl) ?_
  refine kc rfl Fx.go16 (Eva.cons (.u rfl) (Eva.cons (.u rfl) (Eva.cons (.u rfl) (Eva.cons (.u rfl) Eva.nil)))) (Ct.rowc (Seal_ok enc mac nonce ad ha xs hx _ hsa hsx hK hla hl)) ?_
  rintro v24 G24 μ24 hG24 ⟨L24, ov24, eL24, rfl⟩
  have hsa := hsa.mono hG24
  have hsx := hsx.mono hG24
  have hK := hK.mono hG24
  have hbb2 := hbb2.mono hG24
  refine asg rfl .no (.u rfl) ?_
  refine .nil ?_
  have lL24 : L24.length = xs.length + 16 := by rw [eL24, seal_len]
  refine .code ?_
  refine .seq ?_
  refine wk_fb .here (by first | (intro b hb; cases hb; done) | simp [keys, Res.keys]) ?_; intro GfR24 hR24 hleR24 evR24 hsR24; subst evR24
  have hsa := hsa.mono hleR24
  have hsx := hsx.mono hleR24
  have hK := hK.mono hleR24
  have hbb2 := hbb2.mono hleR24
  refine Wk.rg [0, 1, 2, 3, 4, 5, 6, 7, 8, 9, 10, 11, 12] rfl rfl ?_
  refine fa rfl .no Fx.fo29_0 (.u rfl) ?_
  refine lA rfl .no Fx.ag24 (.u rfl) (fun _ => (hbb2.rdn (m := 64) (cs' := ba 32 enc ++ ba 32 mac) (with_k)).rd) (fun _ => (by first | exact (ba_len _ _).trans (ba_len _ _).symm | exact (wa_len _ _).trans (wa_len _ _).symm | exact ba_len _ _ | exact wa_len _ _ | rfl | (simp only [wa_len, ba_len, List.length_append, List.length_cons, List.length_nil]))) ?_
  refine fa rfl .no Fx.fo29_1 (.u rfl) ?_
  refine lA rfl .no Fx.ag26 (.u rfl) (fun _ => (hbb2.rdn (m := 12) (cs' := ba 12 nonce) (with_n)).rd) (fun _ => (by first | exact (ba_len _ _).trans (ba_len _ _).symm | exact (wa_len _ _).trans (wa_len _ _).symm | exact ba_len _ _ | exact wa_len _ _ | rfl | (simp only [wa_len, ba_len, List.length_append, List.length_cons, List.length_nil]))) ?_
  refine fa rfl .no Fx.fo29_2 (.u rfl) ?_
  refine ld rfl .no Fx.ag27 (.u rfl) (fun _ => (hbb2.rd (with_a)).rd) ?_
  refine mv rfl .no (.u rfl) ?_
  refine kc rfl Fx.go20 (Eva.cons (.u rfl) (Eva.cons (.u rfl) (Eva.cons (.u rfl) (Eva.cons (.u rfl) Eva.nil)))) (Open_ok enc mac nonce ad ha L24 _ _ hsa hsR24 hK hla (by omega)) ?_
  rintro _ G33 μ33 hG33 ⟨v33, L33, e33, hO33, rfl, rfl⟩
  have hsa := hsa.mono hG33
  have hsx := hsx.mono hG33
  have hK := hK.mono hG33
  have hbb2 := hbb2.mono hG33
  have hsR24 := hsR24.mono hG33
  refine mv rfl .no (.u rfl) ?_
  refine ex rfl .no (.u rfl) rfl ?_
  refine ex rfl .no (.u rfl) rfl ?_
  refine asg rfl .no (.u rfl) ?_
  refine asg rfl .no (.u rfl) ?_
  refine .nil ?_
  rw [eL24, open_seal] at hO33
  obtain ⟨eL33, ee33⟩ := hO33.some
  have lL33 := congrArg List.length eL33
  refine .code ?_
  refine .seq ?_
  refine wk_rs .here ?_; intro sR33 bbR33 evR33 lcR33 oaR33; subst evR33
  refine Wk.rg [0, 1, 2, 3, 4, 5, 6, 7, 8, 9, 10, 11, 12, 13, 14, 15, 16] rfl rfl ?_
  refine mv rfl .no (.u rfl) ?_
  refine cp rfl .no (.u rfl) (.u rfl) rfl ?_
  refine mv rfl .no (.u rfl) ?_
  refine mv rfl (.t rfl rfl) (.u rfl) ?_
  refine sB rfl (.t rfl rfl) Fx.bs27_9 (.s rfl) (fun hc => (Sc.rowS .here oaR33)) ?_
  refine mv rfl (.t rfl rfl) (.u rfl) ?_
  refine cb rfl (.t rfl rfl) (.s rfl) (.s rfl) ?_
  refine pkA rfl .no (.u rfl) (.s rfl) ?_
  refine mv rfl .no (.u rfl) ?_
  refine mv rfl (.t rfl rfl) (.u rfl) ?_
  refine ln rfl (.t rfl rfl) Fx.sn27 (.s rfl) ?_
  refine mv rfl (.t rfl rfl) (.u rfl) ?_
  refine ln rfl (.t rfl rfl) Fx.sn27 (.s rfl) ?_
  refine arn (((xs.length + 16) : Nat) : Int) rfl (.t rfl rfl) (.s rfl) (.u rfl) rfl (fun hc => by omega) (fun hc => wrap_i64 (by omega) (by omega)) ?_
  refine cp rfl (.t rfl rfl) (.s rfl) (.s rfl) rfl ?_
  refine pkA rfl .no (.u rfl) (.s rfl) ?_
  refine asg rfl .no (.u rfl) ?_
  refine .nil ?_
  refine .code ?_
  refine .seq ?_
  refine .seq ?_
  refine Wk.rg [0, 1, 2] rfl rfl ?_
  refine mv rfl .no (.u rfl) ?_
  refine lr rfl .no Fx.sn27 (.u rfl) .here ?_
  refine mv rfl .no (.u rfl) ?_
  refine .nil ?_
  refine .code ?_
  refine .block ?_
  refine Wk.lop (α := Nat × List Y) (fun gh => [(54, true, .int .i64 (gh.1 : Int))]) (fun gh => [rB (sR33.val L33.length) 5 gh.2])
    (fun gh Gl => (gh.1 ≤ L33.length) ∧ (gh.2.length = L33.length)) (fun gh => L33.length - gh.1) (0, L33) [(1, true, _), (2, true, _), (5, true, _), (6, true, _), (7, true, _), (8, true, _), (10, true, _), (53, true, _)] []
    (ESub.cons rfl (by first | rfl | exact evi (by omega)) (ESub.cons rfl rfl (ESub.cons rfl rfl (ESub.cons rfl rfl (ESub.cons rfl rfl (ESub.cons rfl rfl (ESub.cons rfl rfl (ESub.cons rfl rfl (ESub.cons rfl rfl ESub.nil)))))))))
    (MSub.cons .here rfl MSub.nil) ?_ ?_
  · refine ⟨?_, ?_⟩
    · (try dsimp only) <;> (exact Nat.zero_le _)
    · (try dsimp only) <;> (rfl)
  intro gh N0 Gl0 hN0 hGl0 hF0
  obtain ⟨i, L⟩ := gh; dsimp only at hF0 hN0 ⊢
  obtain ⟨hi, lL⟩ := hF0
  have hsa := hsa.mono hGl0
  have hsx := hsx.mono hGl0
  have hK := hK.mono hGl0
  have hbb2 := hbb2.mono hGl0
  have hsR24 := hsR24.mono hGl0
  refine .seq ?_
  refine Wk.rg [0] rfl rfl ?_
  refine cp rfl .no (.u rfl) (.u rfl) rfl ?_
  refine .nil ?_
  refine .code ?_
  refine .seq ?_
  refine .cond rfl (fun c1 => ?_) (fun c1 => ?_)
  · have c1k := c1
    try simp only [decide_eq_true_eq, decide_eq_false_iff_not, Int.not_lt, Int.not_le, gt_iff_lt, ge_iff_le, Bool.or_eq_true, Bool.and_eq_true, Bool.or_eq_false_iff, Bool.not_eq_true', Bool.not_eq_false', Int.toNat_natCast, bne_iff_ne, beq_iff_eq, bne_eq_false_iff_eq, beq_eq_false_iff_ne, ne_eq] at c1
    refine .skip ?_
    refine .code ?_
    refine .seq ?_
    refine .block ?_
    refine .seq ?_
    refine Wk.rg [0, 1] rfl rfl ?_
    refine mv rfl .no (.u rfl) ?_
    refine asg rfl .no (.u rfl) ?_
    refine .nil ?_
    refine .code ?_
    have e1 := oaR33 (by omega)
    obtain ⟨so, sc⟩ := sR33
    simp only at e1
    subst e1
    refine Wk.rg [0, 1, 2, 3, 4, 5, 6] rfl rfl ?_
    refine mv rfl .no (.u rfl) ?_
    refine mv rfl .no (.u rfl) ?_
    refine ih rfl .no Fx.se27 (.u rfl) (.u rfl) (fun _ => by omega) (fun _ => by omega) (fun _ => rfl) ?_
    refine ld rfl .no Fx.ag5 (.u rfl) (fun _ => Rd.row .here (map_at1 (o := 0) (i) (by omega) (by omega))) ?_
    refine bw (k := .u8) (b := 255#8) rfl .no rfl (.u rfl) (.u rfl) rfl ?_
    refine ih rfl .no Fx.se27 (.u rfl) (.u rfl) (fun _ => by omega) (fun _ => by omega) (fun _ => rfl) ?_
    refine s1r rfl (.u rfl) (.u rfl) Fx.sz5 .here (by show 0 + _ * 1 < _; omega) ?_; intro L9 eL9 lL9
    refine .nil ?_
    refine .blk ?_
    refine .code ?_
    refine Wk.rg [0, 1] rfl rfl ?_
    refine arn (((i + 1) : Nat) : Int) rfl .no (.u rfl) (.u rfl) rfl (fun _ => by omega) (fun _ => wrap_i64 (by omega) (by omega)) ?_
    refine mv rfl .no (.u rfl) ?_
    refine .nil ?_
    refine We.lpo (i + 1, L9) ?_ ?_ ?_ ?_ ?_
    · exact (ESub.cons rfl (by first | rfl | exact evi (by omega)) (ESub.cons rfl rfl (ESub.cons rfl rfl (ESub.cons rfl rfl (ESub.cons rfl rfl (ESub.cons rfl rfl (ESub.cons rfl rfl (ESub.cons rfl rfl (ESub.cons rfl rfl ESub.nil)))))))))
    · exact (MSub.cons .here rfl MSub.nil)
    · first | omega | (dsimp only; omega)
    · exact hGl0
    · refine ⟨?_, ?_⟩
      · (try dsimp only) <;> (first | omega | rfl | assumption | (simp; done))
      · (try dsimp only) <;> (rw [lL9, lL])
  · have c1k := c1
    try simp only [decide_eq_true_eq, decide_eq_false_iff_not, Int.not_lt, Int.not_le, gt_iff_lt, ge_iff_le, Bool.or_eq_true, Bool.and_eq_true, Bool.or_eq_false_iff, Bool.not_eq_true', Bool.not_eq_false', Int.toNat_natCast, bne_iff_ne, beq_iff_eq, bne_eq_false_iff_eq, beq_eq_false_iff_ne, ne_eq] at c1
    refine .exit ?_
    refine .xcode ?_
    refine .xlp ?_
    refine .xblk ?_
    refine .code ?_
    refine .seq ?_
    refine Wk.rg [0, 1, 2, 3, 4, 5, 6, 7, 8, 9, 10, 11, 12] rfl rfl ?_
    refine fa rfl .no Fx.fo29_0 (.u rfl) ?_
    refine lA rfl .no Fx.ag24 (.u rfl) (fun _ => (hbb2.rdn (m := 64) (cs' := ba 32 enc ++ ba 32 mac) (with_k)).rd) (fun _ => (by first | exact (ba_len _ _).trans (ba_len _ _).symm | exact (wa_len _ _).trans (wa_len _ _).symm | exact ba_len _ _ | exact wa_len _ _ | rfl | (simp only [wa_len, ba_len, List.length_append, List.length_cons, List.length_nil]))) ?_
    refine fa rfl .no Fx.fo29_1 (.u rfl) ?_
    refine lA rfl .no Fx.ag26 (.u rfl) (fun _ => (hbb2.rdn (m := 12) (cs' := ba 12 nonce) (with_n)).rd) (fun _ => (by first | exact (ba_len _ _).trans (ba_len _ _).symm | exact (wa_len _ _).trans (wa_len _ _).symm | exact ba_len _ _ | exact wa_len _ _ | rfl | (simp only [wa_len, ba_len, List.length_append, List.length_cons, List.length_nil]))) ?_
    refine fa rfl .no Fx.fo29_2 (.u rfl) ?_
    refine ld rfl .no Fx.ag27 (.u rfl) (fun _ => (hbb2.rd (with_a)).rd) ?_
    refine mv rfl .no (.u rfl) ?_
    refine kc rfl Fx.go20 (Eva.cons (.u rfl) (Eva.cons (.u rfl) (Eva.cons (.u rfl) (Eva.cons (.u rfl) Eva.nil)))) (Open_ok enc mac nonce ad ha L24 _ _ hsa hsR24 hK hla (by omega)) ?_
    rintro _ G72 μ72 hG72 ⟨v72, L72, e72, hO72, rfl, rfl⟩
    have hsa := hsa.mono hG72
    have hsx := hsx.mono hG72
    have hK := hK.mono hG72
    have hbb2 := hbb2.mono hG72
    have hsR24 := hsR24.mono hG72
    refine mv rfl .no (.u rfl) ?_
    refine ex rfl .no (.u rfl) rfl ?_
    refine ex rfl .no (.u rfl) rfl ?_
    refine asg rfl .no (.u rfl) ?_
    refine asg rfl .no (.u rfl) ?_
    refine .nil ?_
    rw [eL24, open_seal] at hO72
    obtain ⟨eL72, ee72⟩ := hO72.some
    refine .code ?_
    refine .seq ?_
    refine wk_rs .here ?_; intro sR72 bbR72 evR72 lcR72 oaR72; subst evR72
    refine Wk.rg [0, 1, 2, 3, 4, 5, 6, 7, 8, 9, 10, 11, 12, 13, 14, 15, 16, 17, 18, 19, 20] rfl rfl ?_
    refine mv rfl .no (.u rfl) ?_
    refine mv rfl .no (.u rfl) ?_
    refine mv rfl (.t rfl rfl) (.u rfl) ?_
    refine pkA rfl .no (.u rfl) (.s rfl) ?_
    refine mv rfl .no (.u rfl) ?_
    refine mv rfl (.t rfl rfl) (.u rfl) ?_
    refine cp rfl (.t rfl rfl) (.s rfl) (.u rfl) rfl ?_
    refine pkA rfl .no (.u rfl) (.s rfl) ?_
    refine mv rfl .no (.u rfl) ?_
    refine mv rfl (.t rfl rfl) (.u rfl) ?_
    refine sB rfl (.t rfl rfl) Fx.bs27_9 (.s rfl) (fun hc => (Sc.rowS .here oaR72)) ?_
    refine mv rfl (.t rfl rfl) (.u rfl) ?_
    refine cb rfl (.t rfl rfl) (.s rfl) (.s rfl) ?_
    refine pkA rfl .no (.u rfl) (.s rfl) ?_
    refine mv rfl .no (.u rfl) ?_
    refine mv rfl (.t rfl rfl) (.u rfl) ?_
    refine sB rfl (.t rfl rfl) Fx.bs27_9 (.s rfl) (fun hc => hsx.sc) ?_
    refine mv rfl (.t rfl rfl) (.u rfl) ?_
    refine cb rfl (.t rfl rfl) (.s rfl) (.s rfl) ?_
    refine pkA rfl .no (.u rfl) (.s rfl) ?_
    refine asg rfl .no (.u rfl) ?_
    refine .nil ?_
    refine .code ?_
    refine .ret ?_
    refine We.fin0 Tryd.results5 (.tmp rfl .nil) ?_
    refine ⟨rfl, congrArg Value.bool ?_⟩
    rw [ee33, ee72, lL24, eL33, eL72]; simp

theorem SealOnce_ok (enc mac nonce : Nat → Y) (ad : List Y) (ha : Sh) (xs : List Y) (hx : Sh) (G : PM) (hsa : SlR G 1 encY ha ad) (hsx : SlR G 1 encY hx xs) (hK : RdNP G 1 0 (wa 64 kW)) (hla : ad.length ≤ 140737488351232) (hl : xs.length ≤ 140737488351232) : Ct Tryd.prog 6 ([.agg (withC enc mac nonce (ha.val ad.length)).toArray, hx.val xs.length] : List Value).toArray G [] (fun _ μ' u => μ' = [] ∧ u = .bool true) := by
  refine Ct.of Tryd.func6 rfl Tryd.ntmps6 rfl fun w0 hs0 => ?_
  refine .seq ?_
  refine Wk.rg [0, 1] rfl rfl ?_
  refine bx rfl (.u rfl) rfl ?_; intro b2
  refine asg rfl .no (.u rfl) ?_
  refine .nil ?_
  refine .code ?_
  refine .seq ?_
  refine wk_fz .here (by intro b hb; cases hb) ?_; intro Gfb2 hleb2 hbb2
  have hsa := hsa.mono hleb2
  have hsx := hsx.mono hleb2
  have hK := hK.mono hleb2
  refine Wk.rg [0, 1] rfl rfl ?_
  refine kv rfl .no Fx.go15 Eva.nil (fun _ => shown_ok _ hK) ?_
  refine asg rfl .no (.u rfl) ?_
  refine .nil ?_
  refine .code ?_
  refine .seq ?_
  refine Wk.rg [0, 1, 2, 3, 4, 5, 6, 7, 8, 9, 10, 11, 12] rfl rfl ?_
  refine fa rfl .no Fx.fo29_0 (.u rfl) ?_
  refine lA rfl .no Fx.ag24 (.u rfl) (fun _ => (hbb2.rdn (m := 64) (cs' := ba 32 enc ++ ba 32 mac) (with_k)).rd) (fun _ => (by first | exact (ba_len _ _).trans (ba_len _ _).symm | exact (wa_len _ _).trans (wa_len _ _).symm | exact ba_len _ _ | exact wa_len _ _ | rfl | (simp only [wa_len, ba_len, List.length_append, List.length_cons, List.length_nil]))) ?_
  refine fa rfl .no Fx.fo29_1 (.u rfl) ?_
  refine lA rfl .no Fx.ag26 (.u rfl) (fun _ => (hbb2.rdn (m := 12) (cs' := ba 12 nonce) (with_n)).rd) (fun _ => (by first | exact (ba_len _ _).trans (ba_len _ _).symm | exact (wa_len _ _).trans (wa_len _ _).symm | exact ba_len _ _ | exact wa_len _ _ | rfl | (simp only [wa_len, ba_len, List.length_append, List.length_cons, List.length_nil]))) ?_
  refine fa rfl .no Fx.fo29_2 (.u rfl) ?_
  refine ld rfl .no Fx.ag27 (.u rfl) (fun _ => (hbb2.rd (with_a)).rd) ?_
  refine mv rfl .no (.u rfl) ?_
  refine kc rfl Fx.go20 (Eva.cons (.u rfl) (Eva.cons (.u rfl) (Eva.cons (.u rfl) (Eva.cons (.u rfl) Eva.nil)))) (Open_ok enc mac nonce ad ha xs hx _ hsa hsx hK hla (by omega)) ?_
  rintro _ G17 μ17 hG17 ⟨v17, L17, e17, hO17, rfl, rfl⟩
  have hsa := hsa.mono hG17
  have hsx := hsx.mono hG17
  have hK := hK.mono hG17
  have hbb2 := hbb2.mono hG17
  refine mv rfl .no (.u rfl) ?_
  refine ex rfl .no (.u rfl) rfl ?_
  refine ex rfl .no (.u rfl) rfl ?_
  refine asg rfl .no (.u rfl) ?_
  refine asg rfl .no (.u rfl) ?_
  refine .nil ?_
  refine .code ?_
  refine .seq ?_
  refine .seq ?_
  refine Wk.rg [0, 1] rfl rfl ?_
  refine mv rfl .no (.u rfl) ?_
  refine cp rfl .no (.u rfl) (.u rfl) rfl ?_
  refine .nil ?_
  refine .code ?_
  refine .cond rfl (fun c1 => ?_) (fun c1 => ?_)
  · have c1k := c1
    try simp only [decide_eq_true_eq, decide_eq_false_iff_not, Int.not_lt, Int.not_le, gt_iff_lt, ge_iff_le, Bool.or_eq_true, Bool.and_eq_true, Bool.or_eq_false_iff, Bool.not_eq_true', Bool.not_eq_false', Int.toNat_natCast, bne_iff_ne, beq_iff_eq, bne_eq_false_iff_eq, beq_eq_false_iff_ne, ne_eq] at c1
    obtain ⟨eO, eL17, ee17⟩ : openL enc mac nonce ad xs = none ∧ L17 = [] ∧ e17 = 60 := hO17.resolve_left (fun h => c1 h.2)
    refine .seq ?_
    refine Wk.rg [0, 1, 2, 3, 4, 5, 6, 7, 8, 9, 10] rfl rfl ?_
    refine mv rfl .no (.u rfl) ?_
    refine mv rfl .no (.u rfl) ?_
    refine mv rfl (.t rfl rfl) (.u rfl) ?_
    refine cp rfl (.t rfl rfl) (.s rfl) (.u rfl) rfl ?_
    refine pkA rfl .no (.u rfl) (.s rfl) ?_
    refine mv rfl .no (.u rfl) ?_
    refine mv rfl (.t rfl rfl) (.u rfl) ?_
    refine lr rfl (.t rfl rfl) Fx.sn27 (.s rfl) .here ?_
    refine cp rfl (.t rfl rfl) (.s rfl) (.u rfl) rfl ?_
    refine pkA rfl .no (.u rfl) (.s rfl) ?_
    refine asg rfl .no (.u rfl) ?_
    refine .nil ?_
    refine .code ?_
    refine .ret ?_
    refine We.fin0 Tryd.results6 (.tmp rfl .nil) ?_
    refine ⟨rfl, congrArg Value.bool ?_⟩
    rw [ee17, eL17]; rfl
  · have c1k := c1
    try simp only [decide_eq_true_eq, decide_eq_false_iff_not, Int.not_lt, Int.not_le, gt_iff_lt, ge_iff_le, Bool.or_eq_true, Bool.and_eq_true, Bool.or_eq_false_iff, Bool.not_eq_true', Bool.not_eq_false', Int.toNat_natCast, bne_iff_ne, beq_iff_eq, bne_eq_false_iff_eq, beq_eq_false_iff_ne, ne_eq] at c1
    obtain ⟨eO, _⟩ : openL enc mac nonce ad xs = some L17 ∧ e17 = 0 := hO17.resolve_right (fun h => by rw [h.2.2] at c1; cases c1)
    obtain ⟨hS, h16, lS⟩ := seal_open eO
    refine .skip ?_
    refine .code ?_
    refine .seq ?_
    refine wk_fb .here (by first | (intro b hb; cases hb; done) | simp [keys, Res.keys]) ?_; intro GfR17 hR17 hleR17 evR17 hsR17; subst evR17
    have hsa := hsa.mono hleR17
    have hsx := hsx.mono hleR17
    have hK := hK.mono hleR17
    have hbb2 := hbb2.mono hleR17
    refine Wk.draw (mc := ⟨false, false⟩) [0, 1, 2, 3, 4, 5, 6, 7, 8, 11, 12, 9, 10, 13, 14, 15] Fx.mix (by kernel_rfl) ?_
    refine mv rfl .no (.u rfl) ?_
    refine mv rfl .no (.u rfl) ?_
    refine fa rfl (.t rfl rfl) Fx.fo29_0 (.u rfl) ?_
    refine lA rfl (.t rfl rfl) Fx.ag24 (.u rfl) (fun _ => (hbb2.rdn (m := 64) (cs' := ba 32 enc ++ ba 32 mac) (with_k)).rd) (fun _ => (by first | exact (ba_len _ _).trans (ba_len _ _).symm | exact (wa_len _ _).trans (wa_len _ _).symm | exact ba_len _ _ | exact wa_len _ _ | rfl | (simp only [wa_len, ba_len, List.length_append, List.length_cons, List.length_nil]))) ?_
    refine fa rfl (.t rfl rfl) Fx.fo29_1 (.u rfl) ?_
    refine lA rfl (.t rfl rfl) Fx.ag26 (.u rfl) (fun _ => (hbb2.rdn (m := 12) (cs' := ba 12 nonce) (with_n)).rd) (fun _ => (by first | exact (ba_len _ _).trans (ba_len _ _).symm | exact (wa_len _ _).trans (wa_len _ _).symm | exact ba_len _ _ | exact wa_len _ _ | rfl | (simp only [wa_len, ba_len, List.length_append, List.length_cons, List.length_nil]))) ?_
    refine fa rfl (.t rfl rfl) Fx.fo29_2 (.u rfl) ?_
    refine ld rfl (.t rfl rfl) Fx.ag27 (.u rfl) (fun _ => (hbb2.rd (with_a)).rd) ?_
    refine mv rfl (.t rfl rfl) (.u rfl) ?_
    refine mv rfl (.t rfl rfl) (.u rfl) ?_
    refine sB rfl (.t rfl rfl) Fx.bs27_9 (.u rfl) (fun _ => hsx.sc) ?_
    refine kcg rfl (.t rfl rfl) Fx.go16 (Eva.cons (.u rfl) (Eva.cons (.u rfl) (Eva.cons (.u rfl) (Eva.cons (.u rfl) Eva.nil)))) (Ct.frzB (Seal_ok enc mac nonce ad ha L17 hR17 _ hsa hsR17 hK hla (by omega))) ?_
    rintro _ G41 μ41 hG41 ⟨h41, L41, eL41, rfl, rfl, hs41⟩
    have hsa := hsa.mono hG41
    have hsx := hsx.mono hG41
    have hK := hK.mono hG41
    have hbb2 := hbb2.mono hG41
    have hsR17 := hsR17.mono hG41
    refine sB rfl (.t rfl rfl) Fx.bs27_9 (.u rfl) (fun _ => hs41.sc) ?_
    refine cb rfl (.t rfl rfl) (.u rfl) (.u rfl) ?_
    refine pkA rfl .no (.u rfl) (.u rfl) ?_
    refine asg rfl .no (.u rfl) ?_
    refine .nil ?_
    refine .code ?_
    refine .ret ?_
    refine We.fin0 Tryd.results6 (.tmp rfl .nil) ?_
    refine ⟨rfl, congrArg Value.bool ?_⟩
    rw [eL41, hS]; simp

theorem SealOther_ok (enc mac nonce enc2 mac2 nonce2 : Nat → Y) (ad ad2 : List Y) (ha ha2 : Sh) (xs : List Y) (hx : Sh) (G : PM) (hsa : SlR G 1 encY ha ad) (hsa2 : SlR G 1 encY ha2 ad2) (hsx : SlR G 1 encY hx xs) (hK : RdNP G 1 0 (wa 64 kW)) (hla : ad.length ≤ 140737488351232) (hla2 : ad2.length ≤ 140737488351232) (hl : xs.length ≤ 140737488351232) : Ct Tryd.prog 7 ([.agg (withC enc mac nonce (ha.val ad.length)).toArray, .agg (withC enc2 mac2 nonce2 (ha2.val ad2.length)).toArray, hx.val xs.length] : List Value).toArray G [] (fun _ μ' u => μ' = [] ∧ u = .bool true) := by
  refine Ct.of Tryd.func7 rfl Tryd.ntmps7 rfl fun w0 hs0 => ?_
  refine .seq ?_
  refine Wk.rg [0, 1, 2] rfl rfl ?_
  refine bx rfl (.u rfl) rfl ?_; intro b3
  refine bx rfl (.u rfl) rfl ?_; intro b4
  refine asg rfl .no (.u rfl) ?_
  refine .nil ?_
  refine .code ?_
  refine .seq ?_
  refine wk_fz (.there .here) (by intro b hb; cases hb) ?_; intro Gfb3 hleb3 hbb3
  have hsa := hsa.mono hleb3
  have hsa2 := hsa2.mono hleb3
  have hsx := hsx.mono hleb3
  have hK := hK.mono hleb3
  refine wk_fz .here (by intro b hb; cases hb) ?_; intro Gfb4 hleb4 hbb4
  have hsa := hsa.mono hleb4
  have hsa2 := hsa2.mono hleb4
  have hsx := hsx.mono hleb4
  have hK := hK.mono hleb4
  have hbb3 := hbb3.mono hleb4
  refine Wk.rg [0, 1] rfl rfl ?_
  refine kv rfl .no Fx.go15 Eva.nil (fun _ => shown_ok _ hK) ?_
  refine asg rfl .no (.u rfl) ?_
  refine .nil ?_
  refine .code ?_
  refine .seq ?_
  refine Wk.rg [0, 1, 2, 3, 4, 5, 6, 7, 8] rfl rfl ?_
  refine fa rfl .no Fx.fo29_0 (.u rfl) ?_
  refine lA rfl .no Fx.ag24 (.u rfl) (fun _ => (hbb3.rdn (m := 64) (cs' := ba 32 enc ++ ba 32 mac) (with_k)).rd) (fun _ => (by first | exact (ba_len _ _).trans (ba_len _ _).symm | exact (wa_len _ _).trans (wa_len _ _).symm | exact ba_len _ _ | exact wa_len _ _ | rfl | (simp only [wa_len, ba_len, List.length_append, List.length_cons, List.length_nil]))) ?_
  refine fa rfl .no Fx.fo29_1 (.u rfl) ?_
  refine lA rfl .no Fx.ag26 (.u rfl) (fun _ => (hbb3.rdn (m := 12) (cs' := ba 12 nonce) (with_n)).rd) (fun _ => (by first | exact (ba_len _ _).trans (ba_len _ _).symm | exact (wa_len _ _).trans (wa_len _ _).symm | exact ba_len _ _ | exact wa_len _ _ | rfl | (simp only [wa_len, ba_len, List.length_append, List.length_cons, List.length_nil]))) ?_
  refine fa rfl .no Fx.fo29_2 (.u rfl) ?_
  refine ld rfl .no Fx.ag27 (.u rfl) (fun _ => (hbb3.rd (with_a)).rd) ?_
  refine mv rfl .no (.u rfl) ?_
  refine kc rfl Fx.go16 (Eva.cons (.u rfl) (Eva.cons (.u rfl) (Eva.cons (.u rfl) (Eva.cons (.u rfl) Eva.nil)))) (Ct.rowc (Seal_ok enc mac nonce ad ha xs hx _ hsa hsx hK hla hl)) ?_
  rintro v20 G20 μ20 hG20 ⟨L20, ov20, eL20, rfl⟩
  have hsa := hsa.mono hG20
  have hsa2 := hsa2.mono hG20
  have hsx := hsx.mono hG20
  have hK := hK.mono hG20
  have hbb3 := hbb3.mono hG20
  have hbb4 := hbb4.mono hG20
  refine asg rfl .no (.u rfl) ?_
  refine .nil ?_
  have lL20 : L20.length = xs.length + 16 := by rw [eL20, seal_len]
  refine .code ?_
  refine .seq ?_
  refine .seq ?_
  refine wk_fb .here (by first | (intro b hb; cases hb; done) | simp [keys, Res.keys]) ?_; intro GfR20 hR20 hleR20 evR20 hsR20; subst evR20
  have hsa := hsa.mono hleR20
  have hsa2 := hsa2.mono hleR20
  have hsx := hsx.mono hleR20
  have hK := hK.mono hleR20
  have hbb3 := hbb3.mono hleR20
  have hbb4 := hbb4.mono hleR20
  refine Wk.rg [0, 1, 2, 3, 4, 5] rfl rfl ?_
  refine mv rfl .no (.u rfl) ?_
  refine ln rfl .no Fx.sn27 (.u rfl) ?_
  refine mv rfl .no (.u rfl) ?_
  refine ln rfl .no Fx.sn27 (.u rfl) ?_
  refine arn (((xs.length + 16) : Nat) : Int) rfl .no (.u rfl) (.u rfl) rfl (fun _ => by omega) (fun _ => wrap_i64 (by omega) (by omega)) ?_
  refine cp rfl .no (.u rfl) (.u rfl) rfl ?_
  refine .nil ?_
  refine .code ?_
  refine .cond rfl (fun c1 => ?_) (fun c1 => ?_)
  · have c1k := c1
    try simp only [decide_eq_true_eq, decide_eq_false_iff_not, Int.not_lt, Int.not_le, gt_iff_lt, ge_iff_le, Bool.or_eq_true, Bool.and_eq_true, Bool.or_eq_false_iff, Bool.not_eq_true', Bool.not_eq_false', Int.toNat_natCast, bne_iff_ne, beq_iff_eq, bne_eq_false_iff_eq, beq_eq_false_iff_ne, ne_eq] at c1
    exfalso; omega
  · have c1k := c1
    try simp only [decide_eq_true_eq, decide_eq_false_iff_not, Int.not_lt, Int.not_le, gt_iff_lt, ge_iff_le, Bool.or_eq_true, Bool.and_eq_true, Bool.or_eq_false_iff, Bool.not_eq_true', Bool.not_eq_false', Int.toNat_natCast, bne_iff_ne, beq_iff_eq, bne_eq_false_iff_eq, beq_eq_false_iff_ne, ne_eq] at c1
    refine .skip ?_
    refine .code ?_
    refine .seq ?_
    refine Wk.draw (mc := ⟨false, false⟩) [0, 1, 2, 3, 4, 5, 6, 7, 8, 9, 10, 11, 12] Fx.mix (by kernel_rfl) ?_
    refine fa rfl .no Fx.fo29_0 (.u rfl) ?_
    refine lA rfl .no Fx.ag24 (.u rfl) (fun _ => (hbb4.rdn (m := 64) (cs' := ba 32 enc2 ++ ba 32 mac2) (with_k)).rd) (fun _ => (by first | exact (ba_len _ _).trans (ba_len _ _).symm | exact (wa_len _ _).trans (wa_len _ _).symm | exact ba_len _ _ | exact wa_len _ _ | rfl | (simp only [wa_len, ba_len, List.length_append, List.length_cons, List.length_nil]))) ?_
    refine fa rfl .no Fx.fo29_1 (.u rfl) ?_
    refine lA rfl .no Fx.ag26 (.u rfl) (fun _ => (hbb4.rdn (m := 12) (cs' := ba 12 nonce2) (with_n)).rd) (fun _ => (by first | exact (ba_len _ _).trans (ba_len _ _).symm | exact (wa_len _ _).trans (wa_len _ _).symm | exact ba_len _ _ | exact wa_len _ _ | rfl | (simp only [wa_len, ba_len, List.length_append, List.length_cons, List.length_nil]))) ?_
    refine fa rfl .no Fx.fo29_2 (.u rfl) ?_
    refine ld rfl .no Fx.ag27 (.u rfl) (fun _ => (hbb4.rd (with_a)).rd) ?_
    refine mv rfl .no (.u rfl) ?_
    refine mv rfl .no (.u rfl) ?_
    refine ln rfl .no Fx.sn27 (.u rfl) ?_
    refine kE (xs.length) rfl .no Fx.se27 hsR20 (.u rfl) (.u rfl) (fun _ => by omega) (fun _ => by omega) ?_
    intro h36 L36 eL36 lL36 hs36
    have lL36 := lL36 rfl
    refine kv rfl .no Fx.go17 (Eva.cons (.u rfl) (Eva.cons (.u rfl) (Eva.cons (.u rfl) (Eva.cons (.u rfl) Eva.nil)))) (fun _ => Tag_ok enc2 mac2 nonce2 ad2 ha2 L36 h36 _ hsa2 hs36 hK hla2 (by omega)) ?_
    refine al rfl Fx.zr32 ?_; intro b9
    refine sw rfl (.u rfl) (.u rfl) rfl Fx.sz32 .here (by first | exact (ba_len _ _).trans (ba_len _ _).symm | exact (wa_len _ _).trans (wa_len _ _).symm | exact ba_len _ _ | exact wa_len _ _ | rfl | (simp only [wa_len, ba_len, List.length_append, List.length_cons, List.length_nil])) (by first | exact ba_one _ _ | exact wa_one _ _ | exact one_V _ | decide | exact one_app (wa_one _ _) (by simp [Value.oneCell'])) ?_
    refine .nil ?_
    refine .code ?_
    refine .seq ?_
    refine Wk.rg [0, 1, 2, 3, 4, 5, 6, 7, 8, 9, 10, 11, 12] rfl rfl ?_
    refine fa rfl .no Fx.fo29_0 (.u rfl) ?_
    refine lA rfl .no Fx.ag24 (.u rfl) (fun _ => (hbb4.rdn (m := 64) (cs' := ba 32 enc2 ++ ba 32 mac2) (with_k)).rd) (fun _ => (by first | exact (ba_len _ _).trans (ba_len _ _).symm | exact (wa_len _ _).trans (wa_len _ _).symm | exact ba_len _ _ | exact wa_len _ _ | rfl | (simp only [wa_len, ba_len, List.length_append, List.length_cons, List.length_nil]))) ?_
    refine fa rfl .no Fx.fo29_1 (.u rfl) ?_
    refine lA rfl .no Fx.ag26 (.u rfl) (fun _ => (hbb4.rdn (m := 12) (cs' := ba 12 nonce2) (with_n)).rd) (fun _ => (by first | exact (ba_len _ _).trans (ba_len _ _).symm | exact (wa_len _ _).trans (wa_len _ _).symm | exact ba_len _ _ | exact wa_len _ _ | rfl | (simp only [wa_len, ba_len, List.length_append, List.length_cons, List.length_nil]))) ?_
    refine fa rfl .no Fx.fo29_2 (.u rfl) ?_
    refine ld rfl .no Fx.ag27 (.u rfl) (fun _ => (hbb4.rd (with_a)).rd) ?_
    refine mv rfl .no (.u rfl) ?_
    refine kc rfl Fx.go20 (Eva.cons (.u rfl) (Eva.cons (.u rfl) (Eva.cons (.u rfl) (Eva.cons (.u rfl) Eva.nil)))) (Open_ok enc2 mac2 nonce2 ad2 ha2 L20 _ _ hsa2 hsR20 hK hla2 (by omega)) ?_
    rintro _ G46 μ46 hG46 ⟨v46, L46, e46, hO46, rfl, rfl⟩
    have hsa := hsa.mono hG46
    have hsa2 := hsa2.mono hG46
    have hsx := hsx.mono hG46
    have hK := hK.mono hG46
    have hbb3 := hbb3.mono hG46
    have hbb4 := hbb4.mono hG46
    have hsR20 := hsR20.mono hG46
    have hs36 := hs36.mono hG46
    refine mv rfl .no (.u rfl) ?_
    refine ex rfl .no (.u rfl) rfl ?_
    refine ex rfl .no (.u rfl) rfl ?_
    refine asg rfl .no (.u rfl) ?_
    refine asg rfl .no (.u rfl) ?_
    refine .nil ?_
    refine .code ?_
    refine .seq ?_
    refine Wk.draw (mc := ⟨false, false⟩) [0, 1, 2, 3, 4, 5, 6, 7, 8, 9, 10, 11, 12, 13, 14, 15, 16, 17, 18, 19, 20, 21, 22] Fx.mix (by kernel_rfl) ?_
    refine mv rfl .no (.u rfl) ?_
    refine mv rfl .no (.u rfl) ?_
    refine mv rfl (.t rfl rfl) (.u rfl) ?_
    refine cp rfl (.t rfl rfl) (.u rfl) (.u rfl) rfl ?_
    refine sa0 rfl (.t rfl rfl) Fx.ar32 (.u rfl) ?_
    refine sB rfl (.t rfl rfl) Fx.bs27_9 (.u rfl) (fun _ => (Sc.arr (.there .here))) ?_
    refine mv rfl (.t rfl rfl) (.u rfl) ?_
    refine mv rfl (.t rfl rfl) (.u rfl) ?_
    refine ln rfl (.t rfl rfl) Fx.sn27 (.u rfl) ?_
    refine kD (xs.length) rfl (.t rfl rfl) Fx.se27 hsR20 (.u rfl) (.u rfl) (fun _ => by omega) (fun _ => by omega) ?_
    intro h58 L58 eL58 lL58 hs58
    have lL58 := lL58 rfl
    refine sB rfl (.t rfl rfl) Fx.bs27_9 (.u rfl) (fun _ => hs58.sc) ?_
    refine cb rfl (.t rfl rfl) (.u rfl) (.u rfl) ?_
    refine eb rfl (.t rfl rfl) Fx.bt4 (.u rfl) (.u rfl) ?_
    refine pkA rfl .no (.u rfl) (.u rfl) ?_
    refine mv rfl .no (.u rfl) ?_
    refine mv rfl (.t rfl rfl) (.u rfl) ?_
    refine cp rfl (.t rfl rfl) (.s rfl) (.u rfl) rfl ?_
    refine mv rfl (.t rfl rfl) (.s rfl) ?_
    refine mv rfl (.fc rfl rfl) (.u rfl) ?_
    refine cp rfl (.fc rfl rfl) (.s rfl) (.u rfl) rfl ?_
    refine pkO rfl (.t rfl rfl) (.s rfl) (.s rfl) ?_
    refine pkA rfl .no (.u rfl) (.s rfl) ?_
    refine asg rfl .no (.u rfl) ?_
    refine .nil ?_
    refine .code ?_
    refine .ret ?_
    refine We.fin0 Tryd.results7 (.tmp rfl .nil) ?_
    have hi := open_iff (enc := enc2) (mac := mac2) (nonce := nonce2) (ad := ad2) (s := L20) (by omega)
    rw [show L20.length - 16 = xs.length by omega, ← eL36, ← eL58] at hi
    refine ⟨rfl, congrArg Value.bool ?_⟩
    rw [hO46.ok, hi]; exact other_fin hO46 hi

theorem SealTurned_ok (enc mac nonce : Nat → Y) (ad : List Y) (ha : Sh) (xs : List Y) (hx : Sh) (l0 l1 : BitVec 16) (G : PM) (hsa : SlR G 1 encY ha ad) (hsx : SlR G 1 encY hx xs) (hK : RdNP G 1 0 (wa 64 kW)) (hla : ad.length ≤ 140737488351232) (hl : xs.length ≤ 140737488351232) : Ct Tryd.prog 8 ([.agg (withC enc mac nonce (ha.val ad.length)).toArray, hx.val xs.length, .agg ([uv .u16 l0, uv .u16 l1] : List Value).toArray] : List Value).toArray G [] (fun _ μ' u => μ' = [] ∧ u = .bool true) := by
  refine Ct.of Tryd.func8 rfl Tryd.ntmps8 rfl fun w0 hs0 => ?_
  refine .seq ?_
  refine Wk.rg [0, 1, 2] rfl rfl ?_
  refine bx rfl (.u rfl) rfl ?_; intro b3
  refine bx rfl (.u rfl) rfl ?_; intro b5
  refine asg rfl .no (.u rfl) ?_
  refine .nil ?_
  refine .code ?_
  refine .seq ?_
  refine wk_fz (.there .here) (by intro b hb; cases hb) ?_; intro Gfb3 hleb3 hbb3
  have hsa := hsa.mono hleb3
  have hsx := hsx.mono hleb3
  have hK := hK.mono hleb3
  refine Wk.rg [0, 1] rfl rfl ?_
  refine kv rfl .no Fx.go15 Eva.nil (fun _ => shown_ok _ hK) ?_
  refine asg rfl .no (.u rfl) ?_
  refine .nil ?_
  refine .code ?_
  refine .seq ?_
  refine Wk.rg [0, 1, 2, 3, 4, 5, 6, 7, 8] rfl rfl ?_
  refine fa rfl .no Fx.fo29_0 (.u rfl) ?_
  refine lA rfl .no Fx.ag24 (.u rfl) (fun _ => (hbb3.rdn (m := 64) (cs' := ba 32 enc ++ ba 32 mac) (with_k)).rd) (fun _ => (by first | exact (ba_len _ _).trans (ba_len _ _).symm | exact (wa_len _ _).trans (wa_len _ _).symm | exact ba_len _ _ | exact wa_len _ _ | rfl | (simp only [wa_len, ba_len, List.length_append, List.length_cons, List.length_nil]))) ?_
  refine fa rfl .no Fx.fo29_1 (.u rfl) ?_
  refine lA rfl .no Fx.ag26 (.u rfl) (fun _ => (hbb3.rdn (m := 12) (cs' := ba 12 nonce) (with_n)).rd) (fun _ => (by first | exact (ba_len _ _).trans (ba_len _ _).symm | exact (wa_len _ _).trans (wa_len _ _).symm | exact ba_len _ _ | exact wa_len _ _ | rfl | (simp only [wa_len, ba_len, List.length_append, List.length_cons, List.length_nil]))) ?_
  refine fa rfl .no Fx.fo29_2 (.u rfl) ?_
  refine ld rfl .no Fx.ag27 (.u rfl) (fun _ => (hbb3.rd (with_a)).rd) ?_
  refine mv rfl .no (.u rfl) ?_
  refine kc rfl Fx.go16 (Eva.cons (.u rfl) (Eva.cons (.u rfl) (Eva.cons (.u rfl) (Eva.cons (.u rfl) Eva.nil)))) (Ct.rowc (Seal_ok enc mac nonce ad ha xs hx _ hsa hsx hK hla hl)) ?_
  rintro v20 G20 μ20 hG20 ⟨L20, ov20, eL20, rfl⟩
  have hsa := hsa.mono hG20
  have hsx := hsx.mono hG20
  have hK := hK.mono hG20
  have hbb3 := hbb3.mono hG20
  refine asg rfl .no (.u rfl) ?_
  refine .nil ?_
  have lL20 : L20.length = xs.length + 16 := by rw [eL20, seal_len]
  refine .code ?_
  refine .seq ?_
  refine .seq ?_
  refine Wk.rg [0, 1, 2, 3, 4, 5] rfl rfl ?_
  refine mv rfl .no (.u rfl) ?_
  refine lr rfl .no Fx.sn27 (.u rfl) .here ?_
  refine mv rfl .no (.u rfl) ?_
  refine ln rfl .no Fx.sn27 (.u rfl) ?_
  refine arn (((xs.length + 16) : Nat) : Int) rfl .no (.u rfl) (.u rfl) rfl (fun _ => by omega) (fun _ => wrap_i64 (by omega) (by omega)) ?_
  refine cp rfl .no (.u rfl) (.u rfl) rfl ?_
  refine .nil ?_
  refine .code ?_
  refine .cond rfl (fun c1 => ?_) (fun c1 => ?_)
  · have c1k := c1
    try simp only [decide_eq_true_eq, decide_eq_false_iff_not, Int.not_lt, Int.not_le, gt_iff_lt, ge_iff_le, Bool.or_eq_true, Bool.and_eq_true, Bool.or_eq_false_iff, Bool.not_eq_true', Bool.not_eq_false', Int.toNat_natCast, bne_iff_ne, beq_iff_eq, bne_eq_false_iff_eq, beq_eq_false_iff_ne, ne_eq] at c1
    exfalso; omega
  · have c1k := c1
    try simp only [decide_eq_true_eq, decide_eq_false_iff_not, Int.not_lt, Int.not_le, gt_iff_lt, ge_iff_le, Bool.or_eq_true, Bool.and_eq_true, Bool.or_eq_false_iff, Bool.not_eq_true', Bool.not_eq_false', Int.toNat_natCast, bne_iff_ne, beq_iff_eq, bne_eq_false_iff_eq, beq_eq_false_iff_ne, ne_eq] at c1
    refine .skip ?_
    refine .code ?_
    refine .seq ?_
    refine wk_rv .here (by omega) ?_; intro bq cq evR20 lcR20; subst evR20
    refine Wk.draw (mc := ⟨false, false⟩) [0, 1, 2, 3, 4, 5, 6, 7, 8, 9, 10, 11, 12, 13, 14] Fx.mix (by kernel_rfl) ?_
    refine mv rfl .no (.u rfl) ?_
    refine iA rfl .no Fx.ar40 (.u rfl) (.u rfl) (fun _ => by decide) (fun _ => by decide) ?_
    refine ld rfl .no Fx.ag39 (.u rfl) (fun _ => Rd.own (.there .here) (by first | exact wa_at1 (0) (by omega) (by omega) | exact ba_at1 (0) (by omega) (by omega) | exact wap_at1 (0) (by omega) (by omega) | rfl)) ?_
    refine cn (k := .u16) rfl .no Fx.cv39_3 (by decide) (.u rfl) ?_; intro m30 em30 lm30
    refine mv rfl .no (.u rfl) ?_
    refine lr rfl .no Fx.sn27 (.u rfl) .here ?_
    refine rmn (m30) (L20.length) rfl .no (.u rfl) (.u rfl) (fun _ => by omega) (fun _ => by omega) (fun _ => by first | decide | omega) ?_
    have hmod : m30 % L20.length < L20.length := Nat.mod_lt _ (by omega)
    refine ia rfl .no Fx.se27 (.u rfl) (.u rfl) (fun _ => by omega) (fun _ => by omega) ?_
    refine ld rfl .no Fx.ag5 (.u rfl) (fun _ => Rd.row .here (by first | exact map_at1 ((m30 % L20.length)) (by omega) (by omega) | exact wa_at1 ((m30 % L20.length)) (by omega) (by omega))) ?_
    refine iA rfl .no Fx.ar40 (.u rfl) (.u rfl) (fun _ => by decide) (fun _ => by decide) ?_
    refine ld rfl .no Fx.ag39 (.u rfl) (fun _ => Rd.own (.there .here) (by first | exact wa_at1 (1) (by omega) (by omega) | exact ba_at1 (1) (by omega) (by omega) | exact wap_at1 (1) (by omega) (by omega) | rfl)) ?_
    refine cu (k := .u16) rfl .no rfl Fx.cv39_5 (.u rfl) ?_
    refine bw (k := .u8) rfl .no rfl (.u rfl) (.u rfl) rfl ?_
    refine ia rfl .no Fx.se27 (.u rfl) (.u rfl) (fun _ => by omega) (fun _ => by omega) ?_
    skip
    refine s1r rfl (.u rfl) (.u rfl) Fx.sz5 .here (by omega) ?_; intro Ls5_14 eLs5_14 lLs5_14
    refine .nil ?_
    refine .code ?_
    refine .seq ?_
    refine wk_fb .here (by first | (intro b hb; cases hb; done) | simp [keys, Res.keys]) ?_; intro GfR20 hR20 hleR20 evR20 hsR20; try rw [ evR20]
    have hsa := hsa.mono hleR20
    have hsx := hsx.mono hleR20
    have hK := hK.mono hleR20
    have hbb3 := hbb3.mono hleR20
    refine Wk.draw (mc := ⟨false, false⟩) [0, 1, 2, 3, 4, 5, 6, 7, 8, 9, 10, 11, 12] Fx.mix (by kernel_rfl) ?_
    refine fa rfl .no Fx.fo29_0 (.u rfl) ?_
    refine lA rfl .no Fx.ag24 (.u rfl) (fun _ => (hbb3.rdn (m := 64) (cs' := ba 32 enc ++ ba 32 mac) (with_k)).rd) (fun _ => (by first | exact (ba_len _ _).trans (ba_len _ _).symm | exact (wa_len _ _).trans (wa_len _ _).symm | exact ba_len _ _ | exact wa_len _ _ | rfl | (simp only [wa_len, ba_len, List.length_append, List.length_cons, List.length_nil]))) ?_
    refine fa rfl .no Fx.fo29_1 (.u rfl) ?_
    refine lA rfl .no Fx.ag26 (.u rfl) (fun _ => (hbb3.rdn (m := 12) (cs' := ba 12 nonce) (with_n)).rd) (fun _ => (by first | exact (ba_len _ _).trans (ba_len _ _).symm | exact (wa_len _ _).trans (wa_len _ _).symm | exact ba_len _ _ | exact wa_len _ _ | rfl | (simp only [wa_len, ba_len, List.length_append, List.length_cons, List.length_nil]))) ?_
    refine fa rfl .no Fx.fo29_2 (.u rfl) ?_
    refine ld rfl .no Fx.ag27 (.u rfl) (fun _ => (hbb3.rd (with_a)).rd) ?_
    refine mv rfl .no (.u rfl) ?_
    refine mv rfl .no (.u rfl) ?_
    refine ln rfl .no Fx.sn27 (.u rfl) ?_
    refine kE (xs.length) rfl .no Fx.se27 hsR20 (.u rfl) (.u rfl) (fun _ => by omega) (fun _ => by omega) ?_
    intro h50 L50 eL50 lL50 hs50
    have lL50 := lL50 rfl
    refine kv rfl .no Fx.go17 (Eva.cons (.u rfl) (Eva.cons (.u rfl) (Eva.cons (.u rfl) (Eva.cons (.u rfl) Eva.nil)))) (fun _ => Tag_ok enc mac nonce ad ha L50 h50 _ hsa hs50 hK hla (by omega)) ?_
    refine al rfl Fx.zr32 ?_; intro b9
    refine sw rfl (.u rfl) (.u rfl) rfl Fx.sz32 .here (by first | exact (ba_len _ _).trans (ba_len _ _).symm | exact (wa_len _ _).trans (wa_len _ _).symm | exact ba_len _ _ | exact wa_len _ _ | rfl | (simp only [wa_len, ba_len, List.length_append, List.length_cons, List.length_nil])) (by first | exact ba_one _ _ | exact wa_one _ _ | exact one_V _ | decide | exact one_app (wa_one _ _) (by simp [Value.oneCell'])) ?_
    refine .nil ?_
    refine .code ?_
    refine .seq ?_
    refine Wk.rg [0, 1, 2, 3, 4, 5, 6, 7, 8, 9, 10, 11, 12] rfl rfl ?_
    refine fa rfl .no Fx.fo29_0 (.u rfl) ?_
    refine lA rfl .no Fx.ag24 (.u rfl) (fun _ => (hbb3.rdn (m := 64) (cs' := ba 32 enc ++ ba 32 mac) (with_k)).rd) (fun _ => (by first | exact (ba_len _ _).trans (ba_len _ _).symm | exact (wa_len _ _).trans (wa_len _ _).symm | exact ba_len _ _ | exact wa_len _ _ | rfl | (simp only [wa_len, ba_len, List.length_append, List.length_cons, List.length_nil]))) ?_
    refine fa rfl .no Fx.fo29_1 (.u rfl) ?_
    refine lA rfl .no Fx.ag26 (.u rfl) (fun _ => (hbb3.rdn (m := 12) (cs' := ba 12 nonce) (with_n)).rd) (fun _ => (by first | exact (ba_len _ _).trans (ba_len _ _).symm | exact (wa_len _ _).trans (wa_len _ _).symm | exact ba_len _ _ | exact wa_len _ _ | rfl | (simp only [wa_len, ba_len, List.length_append, List.length_cons, List.length_nil]))) ?_
    refine fa rfl .no Fx.fo29_2 (.u rfl) ?_
    refine ld rfl .no Fx.ag27 (.u rfl) (fun _ => (hbb3.rd (with_a)).rd) ?_
    refine mv rfl .no (.u rfl) ?_
    refine kc rfl Fx.go20 (Eva.cons (.u rfl) (Eva.cons (.u rfl) (Eva.cons (.u rfl) (Eva.cons (.u rfl) Eva.nil)))) (Open_ok enc mac nonce ad ha Ls5_14 _ _ hsa hsR20 hK hla (by omega)) ?_
    rintro _ G60 μ60 hG60 ⟨v60, L60, e60, hO60, rfl, rfl⟩
    have hsa := hsa.mono hG60
    have hsx := hsx.mono hG60
    have hK := hK.mono hG60
    have hbb3 := hbb3.mono hG60
    have hsR20 := hsR20.mono hG60
    have hs50 := hs50.mono hG60
    refine mv rfl .no (.u rfl) ?_
    refine ex rfl .no (.u rfl) rfl ?_
    refine ex rfl .no (.u rfl) rfl ?_
    refine asg rfl .no (.u rfl) ?_
    refine asg rfl .no (.u rfl) ?_
    refine .nil ?_
    refine .code ?_
    refine .seq ?_
    refine Wk.draw (mc := ⟨false, false⟩) [0, 1, 2, 3, 4, 5, 6, 7, 8, 9, 10, 11, 12, 13, 14, 15, 16, 17, 18, 19, 20, 21, 22, 23, 24] Fx.mix (by kernel_rfl) ?_
    refine mv rfl .no (.u rfl) ?_
    refine mv rfl .no (.u rfl) ?_
    refine mv rfl (.t rfl rfl) (.u rfl) ?_
    refine cp rfl (.t rfl rfl) (.u rfl) (.u rfl) rfl ?_
    refine sa0 rfl (.t rfl rfl) Fx.ar32 (.u rfl) ?_
    refine sB rfl (.t rfl rfl) Fx.bs27_9 (.u rfl) (fun _ => (Sc.arr (.there .here))) ?_
    refine mv rfl (.t rfl rfl) (.u rfl) ?_
    refine mv rfl (.t rfl rfl) (.u rfl) ?_
    refine ln rfl (.t rfl rfl) Fx.sn27 (.u rfl) ?_
    refine kD (xs.length) rfl (.t rfl rfl) Fx.se27 hsR20 (.u rfl) (.u rfl) (fun _ => by omega) (fun _ => by omega) ?_
    intro h72 L72 eL72 lL72 hs72
    have lL72 := lL72 rfl
    refine sB rfl (.t rfl rfl) Fx.bs27_9 (.u rfl) (fun _ => hs72.sc) ?_
    refine cb rfl (.t rfl rfl) (.u rfl) (.u rfl) ?_
    refine eb rfl (.t rfl rfl) Fx.bt4 (.u rfl) (.u rfl) ?_
    refine pkA rfl .no (.u rfl) (.u rfl) ?_
    refine mv rfl .no (.u rfl) ?_
    refine iA rfl (.t rfl rfl) Fx.ar40 (.u rfl) (.u rfl) (fun hc => by decide) (fun hc => by decide) ?_
    refine ld rfl (.t rfl rfl) Fx.ag39 (.s rfl) (fun hc => Rd.own (.there (.there .here)) (by first | exact wa_at1 (1) (by omega) (by omega) | exact ba_at1 (1) (by omega) (by omega) | exact wap_at1 (1) (by omega) (by omega) | rfl)) ?_
    refine cu (k := .u16) rfl (.t rfl rfl) rfl Fx.cv39_5 (.s rfl) ?_
    refine cp rfl (.t rfl rfl) (.s rfl) (.u rfl) rfl ?_
    refine mv rfl (.t rfl rfl) (.s rfl) ?_
    refine mv rfl (.fc rfl rfl) (.u rfl) ?_
    refine cp rfl (.fc rfl rfl) (.s rfl) (.u rfl) rfl ?_
    refine pkO rfl (.t rfl rfl) (.s rfl) (.s rfl) ?_
    refine pkA rfl .no (.u rfl) (.s rfl) ?_
    refine asg rfl .no (.u rfl) ?_
    refine .nil ?_
    refine .code ?_
    refine .ret ?_
    refine We.fin0 Tryd.results8 (.tmp rfl .nil) ?_
    have hi := open_iff (enc := enc) (mac := mac) (nonce := nonce) (ad := ad) (s := Ls5_14) (by omega)
    rw [show Ls5_14.length - 16 = xs.length by omega, ← eL50, ← eL72] at hi
    refine ⟨rfl, congrArg Value.bool ?_⟩
    rw [hO60.ok, hi]; exact turned_fin hi (fun h => by rw [eLs5_14.trans (turned_same h (show 0 + _ * 1 = _ by omega) hmod), eL20, open_seal]; rfl)

end Go.Proofs.YtoogjfldgeiapaaDoor
