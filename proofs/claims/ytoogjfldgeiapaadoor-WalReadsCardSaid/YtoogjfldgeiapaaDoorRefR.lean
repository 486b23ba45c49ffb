/- Contracts of functions, walked. -/
import Derived.Test.YtoogjfldgeiapaaDoorRefQ
namespace Go.Proofs.YtoogjfldgeiapaaDoor
set_option linter.unusedSimpArgs false
set_option linter.unusedVariables false
open Go.Tan Go.RowKit

namespace Fx
theorem go18 : goFn Tryd.prog 18 = true := by kernel_rfl
theorem go21 : goFn Tryd.prog 21 = true := by kernel_rfl
end Fx
theorem SealSeals_ok (enc mac nonce : Nat → Y) (ad : List Y) (ha : Sh) (xs : List Y) (hx : Sh) (G : PM) (hsa : SlR G 1 encY ha ad) (hsx : SlR G 1 encY hx xs) (hK : RdNP G 1 0 (wa 64 kW)) (hR : RdNP G 0 0 (wa 64 kW)) (hla : ad.length ≤ 209715200000) (hl : xs.length ≤ 209715200000) : Ct Tryd.prog 3 ([.agg (withC enc mac nonce (ha.val ad.length)).toArray, hx.val xs.length] : List Value).toArray G [] (fun _ μ' u => μ' = [] ∧ u = .bool true) := by
  refine Ct.of Tryd.func3 rfl Tryd.ntmps3 rfl fun w0 hs0 => ?_
  refine .seq ?_
  refine Wk.rg [0, 1] rfl rfl ?_
  refine bx rfl (.u rfl) rfl ?_; intro b2
  refine asg rfl .no (.u rfl) ?_
  refine .nil ?_
  refine .code ?_
  refine .seq ?_
  refine wk_fz .here (by intro b hb; cases hb) ?_; intro Gfb2 hleb2 hbb2
  have hsa := hsa.mono hleb2
  have hsx := hsx.mono hleb2
  have hK := hK.mono hleb2
  have hR := hR.mono hleb2
  refine Wk.rg [0, 1] rfl rfl ?_
  refine kv rfl .no Fx.go15 Eva.nil (fun _ => shown_ok _ hK) ?_
  refine asg rfl .no (.u rfl) ?_
  refine .nil ?_
  refine .code ?_
  refine .seq ?_
  refine Wk.rg [0, 1, 2, 3, 4, 5, 6, 7, 8] rfl rfl ?_
  refine fa rfl .no Fx.fo29_0 (.u rfl) ?_
  refine lA rfl .no Fx.ag24 (.u rfl) (fun _ => (hbb2.rdn (m := 64) (cs' := ba 32 enc ++ ba 32 mac) (with_k)).rd) (fun _ => (by first | exact (ba_len _ _).trans (ba_len _ _).symm | exact (wa_len _ _).trans (wa_len _ _).symm | exact ba_len _ _ | exact wa_len _ _ | rfl | (simp only [wa_len, ba_len, List.length_append, List.length_cons, List.length_nil]))) ?_
  refine fa rfl .no Fx.fo29_1 (.u rfl) ?_
  refine lA rfl .no Fx.ag26 (.u rfl) (fun _ => (hbb2.rdn (m := 12) (cs' := ba 12 nonce) (with_n)).rd) (fun _ => (by first | exact (ba_len _ _).trans (ba_len _ _).symm | exact (wa_len _ _).trans (wa_len _ _).symm | exact ba_len _ _ | exact wa_len _ _ | rfl | (simp only [wa_len, ba_len, List.length_append, List.length_cons, List.length_nil]))) ?_
  refine fa rfl .no Fx.fo29_2 (.u rfl) ?_
  refine ld rfl .no Fx.ag27 (.u rfl) (fun _ => (hbb2.rd (with_a)).rd) ?_
  refine mv rfl .no (.u rfl) ?_
  refine kc rfl Fx.go16 (Eva.cons (.u rfl) (Eva.cons (.u rfl) (Eva.cons (.u rfl) (Eva.cons (.u rfl) Eva.nil)))) (Ct.rowc (Seal_ok enc mac nonce ad ha xs hx _ hsa hsx hK (by omega) (by omega))) ?_
  rintro v16 G16 μ16 hG16 ⟨L16, ov16, eL16, rfl⟩
  have hsa := hsa.mono hG16
  have hsx := hsx.mono hG16
  have hK := hK.mono hG16
  have hR := hR.mono hG16
  have hbb2 := hbb2.mono hG16
  refine asg rfl .no (.u rfl) ?_
  refine .nil ?_
  refine .code ?_
  refine .seq ?_
  refine Wk.rg [0, 1, 2, 3, 4, 5, 6, 7, 8, 9] rfl rfl ?_
  refine fa rfl .no Fx.fo29_0 (.u rfl) ?_
  refine lA rfl .no Fx.ag24 (.u rfl) (fun _ => (hbb2.rdn (m := 64) (cs' := ba 32 enc ++ ba 32 mac) (with_k)).rd) (fun _ => (by first | exact (ba_len _ _).trans (ba_len _ _).symm | exact (wa_len _ _).trans (wa_len _ _).symm | exact ba_len _ _ | exact wa_len _ _ | rfl | (simp only [wa_len, ba_len, List.length_append, List.length_cons, List.length_nil]))) ?_
  refine fa rfl .no Fx.fo29_1 (.u rfl) ?_
  refine lA rfl .no Fx.ag26 (.u rfl) (fun _ => (hbb2.rdn (m := 12) (cs' := ba 12 nonce) (with_n)).rd) (fun _ => (by first | exact (ba_len _ _).trans (ba_len _ _).symm | exact (wa_len _ _).trans (wa_len _ _).symm | exact ba_len _ _ | exact wa_len _ _ | rfl | (simp only [wa_len, ba_len, List.length_append, List.length_cons, List.length_nil]))) ?_
  refine fa rfl .no Fx.fo29_2 (.u rfl) ?_
  refine ld rfl .no Fx.ag27 (.u rfl) (fun _ => (hbb2.rd (with_a)).rd) ?_
  refine mv rfl .no (.u rfl) ?_
  refine kv rfl .no Fx.go17 (Eva.cons (.u rfl) (Eva.cons (.u rfl) (Eva.cons (.u rfl) (Eva.cons (.u rfl) Eva.nil)))) (fun _ => Tag_ok enc mac nonce ad ha xs hx _ hsa hsx hK (by omega) (by omega)) ?_
  refine al rfl Fx.zr32 ?_; intro b7
  refine sw rfl (.u rfl) (.u rfl) rfl Fx.sz32 .here (by first | exact (ba_len _ _).trans (ba_len _ _).symm | exact (wa_len _ _).trans (wa_len _ _).symm | exact ba_len _ _ | exact wa_len _ _ | rfl | (simp only [wa_len, ba_len, List.length_append, List.length_cons, List.length_nil])) (by first | exact ba_one _ _ | exact wa_one _ _ | exact one_V _ | decide | exact one_app (wa_one _ _) (by simp [Value.oneCell'])) ?_
  refine .nil ?_
  refine .code ?_
  refine .seq ?_
  refine wk_fb (.there .here) (by first | (intro b hb; cases hb; done) | simp [keys, Res.keys]) ?_; intro GfR16 hR16 hleR16 evR16 hsR16; subst evR16
  have hsa := hsa.mono hleR16
  have hsx := hsx.mono hleR16
  have hK := hK.mono hleR16
  have hR := hR.mono hleR16
  have hbb2 := hbb2.mono hleR16
  refine Wk.draw (mc := ⟨false, false⟩) [0, 1, 2, 3, 4, 5, 6, 7, 8, 9, 10, 11, 12, 13, 14, 15, 16, 17, 18, 19, 20, 21, 22, 23, 24, 25, 26, 27, 28, 29] Fx.mix (by kernel_rfl) ?_
  refine mv rfl .no (.u rfl) ?_
  refine mv rfl .no (.u rfl) ?_
  refine mv rfl (.t rfl rfl) (.u rfl) ?_
  refine sB rfl (.t rfl rfl) Fx.bs27_9 (.u rfl) (fun _ => hsR16.sc) ?_
  refine fa rfl (.t rfl rfl) Fx.fo29_0 (.u rfl) ?_
  refine lA rfl (.t rfl rfl) Fx.ag24 (.u rfl) (fun _ => (hbb2.rdn (m := 64) (cs' := ba 32 enc ++ ba 32 mac) (with_k)).rd) (fun _ => (by first | exact (ba_len _ _).trans (ba_len _ _).symm | exact (wa_len _ _).trans (wa_len _ _).symm | exact ba_len _ _ | exact wa_len _ _ | rfl | (simp only [wa_len, ba_len, List.length_append, List.length_cons, List.length_nil]))) ?_
  refine fa rfl (.t rfl rfl) Fx.fo29_1 (.u rfl) ?_
  refine lA rfl (.t rfl rfl) Fx.ag26 (.u rfl) (fun _ => (hbb2.rdn (m := 12) (cs' := ba 12 nonce) (with_n)).rd) (fun _ => (by first | exact (ba_len _ _).trans (ba_len _ _).symm | exact (wa_len _ _).trans (wa_len _ _).symm | exact ba_len _ _ | exact wa_len _ _ | rfl | (simp only [wa_len, ba_len, List.length_append, List.length_cons, List.length_nil]))) ?_
  refine fa rfl (.t rfl rfl) Fx.fo29_2 (.u rfl) ?_
  refine ld rfl (.t rfl rfl) Fx.ag27 (.u rfl) (fun _ => (hbb2.rd (with_a)).rd) ?_
  refine mv rfl (.t rfl rfl) (.u rfl) ?_
  refine kcg rfl (.t rfl rfl) Fx.go18 (Eva.cons (.u rfl) (Eva.cons (.u rfl) (Eva.cons (.u rfl) (Eva.cons (.u rfl) Eva.nil)))) (Ct.frzB (rSeal_ok enc mac nonce ad ha xs hx _ hsa hsx hR hla hl)) ?_
  rintro _ G36 μ36 hG36 ⟨h36, L36, eL36, rfl, rfl, hs36⟩
  have hsa := hsa.mono hG36
  have hsx := hsx.mono hG36
  have hK := hK.mono hG36
  have hR := hR.mono hG36
  have hbb2 := hbb2.mono hG36
  have hsR16 := hsR16.mono hG36
  refine sB rfl (.t rfl rfl) Fx.bs27_9 (.u rfl) (fun _ => hs36.sc) ?_
  refine cb rfl (.t rfl rfl) (.u rfl) (.u rfl) ?_
  refine pkA rfl .no (.u rfl) (.u rfl) ?_
  refine wo_b true (by rw [eL16, eL36]; simp) ?_
  refine mv rfl .no (.u rfl) ?_
  refine sa0 rfl (.t rfl rfl) Fx.ar32 (.u rfl) ?_
  refine sB rfl (.t rfl rfl) Fx.bs27_9 (.u rfl) (fun _ => (Sc.arr .here)) ?_
  refine fa rfl (.t rfl rfl) Fx.fo29_0 (.u rfl) ?_
  refine lA rfl (.t rfl rfl) Fx.ag24 (.u rfl) (fun _ => (hbb2.rdn (m := 64) (cs' := ba 32 enc ++ ba 32 mac) (with_k)).rd) (fun _ => (by first | exact (ba_len _ _).trans (ba_len _ _).symm | exact (wa_len _ _).trans (wa_len _ _).symm | exact ba_len _ _ | exact wa_len _ _ | rfl | (simp only [wa_len, ba_len, List.length_append, List.length_cons, List.length_nil]))) ?_
  refine fa rfl (.t rfl rfl) Fx.fo29_1 (.u rfl) ?_
  refine lA rfl (.t rfl rfl) Fx.ag26 (.u rfl) (fun _ => (hbb2.rdn (m := 12) (cs' := ba 12 nonce) (with_n)).rd) (fun _ => (by first | exact (ba_len _ _).trans (ba_len _ _).symm | exact (wa_len _ _).trans (wa_len _ _).symm | exact ba_len _ _ | exact wa_len _ _ | rfl | (simp only [wa_len, ba_len, List.length_append, List.length_cons, List.length_nil]))) ?_
  refine fa rfl (.t rfl rfl) Fx.fo29_2 (.u rfl) ?_
  refine ld rfl (.t rfl rfl) Fx.ag27 (.u rfl) (fun _ => (hbb2.rd (with_a)).rd) ?_
  refine mv rfl (.t rfl rfl) (.u rfl) ?_
  refine kcg rfl (.t rfl rfl) Fx.go19 (Eva.cons (.u rfl) (Eva.cons (.u rfl) (Eva.cons (.u rfl) (Eva.cons (.u rfl) Eva.nil)))) (Ct.frzB (rTag_ok enc mac nonce ad ha xs hx _ hsa hsx hR hla hl)) ?_
  rintro _ G50 μ50 hG50 ⟨h50, L50, eL50, rfl, rfl, hs50⟩
  have hsa := hsa.mono hG50
  have hsx := hsx.mono hG50
  have hK := hK.mono hG50
  have hR := hR.mono hG50
  have hbb2 := hbb2.mono hG50
  have hsR16 := hsR16.mono hG50
  have hs36 := hs36.mono hG50
  refine sB rfl (.t rfl rfl) Fx.bs27_9 (.u rfl) (fun _ => hs50.sc) ?_
  refine cb rfl (.t rfl rfl) (.u rfl) (.u rfl) ?_
  refine pkA rfl .no (.u rfl) (.u rfl) ?_
  refine asg rfl .no (.u rfl) ?_
  refine .nil ?_
  refine .code ?_
  refine .ret ?_
  refine We.fin0 Tryd.results3 (.tmp rfl .nil) ?_
  refine ⟨rfl, congrArg Value.bool ?_⟩
  rw [eL50]; simp

theorem SealOpens_ok (enc mac nonce : Nat → Y) (ad : List Y) (ha : Sh) (xs : List Y) (hx : Sh) (G : PM) (hsa : SlR G 1 encY ha ad) (hsx : SlR G 1 encY hx xs) (hK : RdNP G 1 0 (wa 64 kW)) (hR : RdNP G 0 0 (wa 64 kW)) (hla : ad.length ≤ 209715200000) (hl : xs.length ≤ 209715200000) : Ct Tryd.prog 4 ([.agg (withC enc mac nonce (ha.val ad.length)).toArray, hx.val xs.length] : List Value).toArray G [] (fun _ μ' u => μ' = [] ∧ u = .bool true) := by
  refine Ct.of Tryd.func4 rfl Tryd.ntmps4 rfl fun w0 hs0 => ?_
  refine .seq ?_
  refine Wk.rg [0, 1] rfl rfl ?_
  refine bx rfl (.u rfl) rfl ?_; intro b2
  refine asg rfl .no (.u rfl) ?_
  refine .nil ?_
  refine .code ?_
  refine .seq ?_
  refine wk_fz .here (by intro b hb; cases hb) ?_; intro Gfb2 hleb2 hbb2
  have hsa := hsa.mono hleb2
  have hsx := hsx.mono hleb2
  have hK := hK.mono hleb2
  have hR := hR.mono hleb2
  refine Wk.rg [0, 1] rfl rfl ?_
  refine kv rfl .no Fx.go15 Eva.nil (fun _ => shown_ok _ hK) ?_
  refine asg rfl .no (.u rfl) ?_
  refine .nil ?_
  refine .code ?_
  refine .seq ?_
  refine Wk.rg [0, 1, 2, 3, 4, 5, 6, 7, 8, 9, 10, 11, 12] rfl rfl ?_
  refine fa rfl .no Fx.fo29_0 (.u rfl) ?_
  refine lA rfl .no Fx.ag24 (.u rfl) (fun _ => (hbb2.rdn (m := 64) (cs' := ba 32 enc ++ ba 32 mac) (with_k)).rd) (fun _ => (by first | exact (ba_len _ _).trans (ba_len _ _).symm | exact (wa_len _ _).trans (wa_len _ _).symm | exact ba_len _ _ | exact wa_len _ _ | rfl | (simp only [wa_len, ba_len, List.length_append, List.length_cons, List.length_nil]))) ?_
  refine fa rfl .no Fx.fo29_1 (.u rfl) ?_
  refine lA rfl .no Fx.ag26 (.u rfl) (fun _ => (hbb2.rdn (m := 12) (cs' := ba 12 nonce) (with_n)).rd) (fun _ => (by first | exact (ba_len _ _).trans (ba_len _ _).symm | exact (wa_len _ _).trans (wa_len _ _).symm | exact ba_len _ _ | exact wa_len _ _ | rfl | (simp only [wa_len, ba_len, List.length_append, List.length_cons, List.length_nil]))) ?_
  refine fa rfl .no Fx.fo29_2 (.u rfl) ?_
  refine ld rfl .no Fx.ag27 (.u rfl) (fun _ => (hbb2.rd (with_a)).rd) ?_
  refine mv rfl .no (.u rfl) ?_
  refine kc rfl Fx.go20 (Eva.cons (.u rfl) (Eva.cons (.u rfl) (Eva.cons (.u rfl) (Eva.cons (.u rfl) Eva.nil)))) (Open_ok enc mac nonce ad ha xs hx _ hsa hsx hK (by omega) (by omega)) ?_
  rintro _ G19 μ19 hG19 ⟨v19, L19, e19, hO19, rfl, rfl⟩
  have hsa := hsa.mono hG19
  have hsx := hsx.mono hG19
  have hK := hK.mono hG19
  have hR := hR.mono hG19
  have hbb2 := hbb2.mono hG19
  refine mv rfl .no (.u rfl) ?_
  refine ex rfl .no (.u rfl) rfl ?_
  refine ex rfl .no (.u rfl) rfl ?_
  refine asg rfl .no (.u rfl) ?_
  refine asg rfl .no (.u rfl) ?_
  refine .nil ?_
  refine .code ?_
  refine .seq ?_
  refine Wk.rg [0, 1, 2, 3, 4, 5, 6, 7, 8, 9, 10, 11, 12] rfl rfl ?_
  refine fa rfl .no Fx.fo29_0 (.u rfl) ?_
  refine lA rfl .no Fx.ag24 (.u rfl) (fun _ => (hbb2.rdn (m := 64) (cs' := ba 32 enc ++ ba 32 mac) (with_k)).rd) (fun _ => (by first | exact (ba_len _ _).trans (ba_len _ _).symm | exact (wa_len _ _).trans (wa_len _ _).symm | exact ba_len _ _ | exact wa_len _ _ | rfl | (simp only [wa_len, ba_len, List.length_append, List.length_cons, List.length_nil]))) ?_
  refine fa rfl .no Fx.fo29_1 (.u rfl) ?_
  refine lA rfl .no Fx.ag26 (.u rfl) (fun _ => (hbb2.rdn (m := 12) (cs' := ba 12 nonce) (with_n)).rd) (fun _ => (by first | exact (ba_len _ _).trans (ba_len _ _).symm | exact (wa_len _ _).trans (wa_len _ _).symm | exact ba_len _ _ | exact wa_len _ _ | rfl | (simp only [wa_len, ba_len, List.length_append, List.length_cons, List.length_nil]))) ?_
  refine fa rfl .no Fx.fo29_2 (.u rfl) ?_
  refine ld rfl .no Fx.ag27 (.u rfl) (fun _ => (hbb2.rd (with_a)).rd) ?_
  refine mv rfl .no (.u rfl) ?_
  refine kc rfl Fx.go21 (Eva.cons (.u rfl) (Eva.cons (.u rfl) (Eva.cons (.u rfl) (Eva.cons (.u rfl) Eva.nil)))) (rOpen_ok enc mac nonce ad ha xs hx _ hsa hsx hR hla hl) ?_
  rintro _ G30 μ30 hG30 ⟨v30, L30, e30, hO30, rfl, rfl⟩
  have hsa := hsa.mono hG30
  have hsx := hsx.mono hG30
  have hK := hK.mono hG30
  have hR := hR.mono hG30
  have hbb2 := hbb2.mono hG30
  refine mv rfl .no (.u rfl) ?_
  refine ex rfl .no (.u rfl) rfl ?_
  refine ex rfl .no (.u rfl) rfl ?_
  refine asg rfl .no (.u rfl) ?_
  refine asg rfl .no (.u rfl) ?_
  refine .nil ?_
  refine .code ?_
  refine .seq ?_
  refine wk_rs (.there .here) ?_; intro sR19 bbR19 evR19 lcR19 oaR19; subst evR19
  refine wk_rs .here ?_; intro sR30 bbR30 evR30 lcR30 oaR30; subst evR30
  refine Wk.rg [0, 1, 2, 3, 4, 5, 6, 7, 8, 9, 10, 11, 12, 13] rfl rfl ?_
  refine mv rfl .no (.u rfl) ?_
  refine mv rfl .no (.u rfl) ?_
  refine mv rfl (.t rfl rfl) (.u rfl) ?_
  refine sB rfl (.t rfl rfl) Fx.bs27_9 (.s rfl) (fun hc => (Sc.rowS (.there .here) oaR19)) ?_
  refine mv rfl (.t rfl rfl) (.u rfl) ?_
  refine sB rfl (.t rfl rfl) Fx.bs27_9 (.s rfl) (fun hc => (Sc.rowS .here oaR30)) ?_
  refine cb rfl (.t rfl rfl) (.s rfl) (.s rfl) ?_
  refine pkA rfl .no (.u rfl) (.s rfl) ?_
  refine mv rfl .no (.u rfl) ?_
  refine mv rfl (.t rfl rfl) (.u rfl) ?_
  refine mv rfl (.t rfl rfl) (.u rfl) ?_
  refine cp rfl (.t rfl rfl) (.s rfl) (.s rfl) rfl ?_
  refine pkA rfl .no (.u rfl) (.s rfl) ?_
  refine asg rfl .no (.u rfl) ?_
  refine .nil ?_
  refine .code ?_
  refine .ret ?_
  refine We.fin0 Tryd.results4 (.tmp rfl .nil) ?_
  obtain ⟨eL, ee⟩ := hO19.uniq hO30
  refine ⟨rfl, congrArg Value.bool ?_⟩
  rw [eL, ee]; simp

end Go.Proofs.YtoogjfldgeiapaaDoor
