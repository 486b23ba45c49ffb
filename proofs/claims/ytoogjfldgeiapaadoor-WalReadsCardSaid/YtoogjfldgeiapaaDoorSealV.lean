/- Contracts of functions, walked. -/
import Derived.Test.YtoogjfldgeiapaaDoorSealU
namespace Go.Proofs.YtoogjfldgeiapaaDoor
set_option linter.unusedSimpArgs false
set_option linter.unusedVariables false
open Go.Tan Go.RowKit

namespace Fx
theorem cst27 : csT Tryd.prog 27 = true := by kernel_rfl
theorem bp24_ : bPl Tryd.prog 24 [] = some (ba 32 (fun _ => 0#8) ++ ba 32 (fun _ => 0#8), []) := by kernel_rfl
theorem bp26_ : bPl Tryd.prog 26 [] = some (ba 12 (fun _ => 0#8), []) := by kernel_rfl
theorem go16 : goFn Tryd.prog 16 = true := by kernel_rfl
theorem go20 : goFn Tryd.prog 20 = true := by kernel_rfl
theorem bs27_9 : bsT Tryd.prog 27 9 = true := by kernel_rfl
end Fx
theorem open_row (enc mac nonce : Nat → Y) (ad : List Y) (ha : Sh) (xs : List Y) (v : Value) (G : PM) (hsa : SlR G 1 encY ha ad) (hK : RdNP G 1 0 (wa 64 kW)) (hla : ad.length ≤ 140737488351232) (hl : xs.length ≤ 140737488351248) : Ct Tryd.prog 20 ([.agg (ba 32 enc ++ ba 32 mac).toArray, .agg (ba 12 nonce).toArray, ha.val ad.length, v] : List Value).toArray G [rB v 5 xs] (fun _ μ' u => ∃ ν, μ' = rB v 5 xs :: ν ∧ ∃ v' L e, OpenR (openL enc mac nonce ad xs) L e ∧ ν = [rB v' 5 L] ∧ u = .tuple #[v', .int .i64 e]) :=
  Ct.lendB (fun hx G2 hle hv hs => by subst hv; exact Open_ok enc mac nonce ad ha xs hx G2 (hsa.mono hle) hs (hK.mono hle) hla hl)
def textL : List Y := [116#8, 101#8, 120#8, 116#8]
def zF : Nat → Y := fun _ => 0#8
theorem text_str : ((bstr textL).toList == (⟨#[116, 101, 120, 116]⟩ : ByteArray).toList) = true := by
  rw [ByteArray.toList_eq, ByteArray.toList_eq, bstr_data]; decide
theorem shown_ok (G : PM) (hK : RdNP G 1 0 (wa 64 kW)) : Ct Tryd.prog 15 ([] : List Value).toArray G [] (fun _ μ' u => μ' = [] ∧ u = .bool true) := by
  refine Ct.of Tryd.func15 rfl Tryd.ntmps15 rfl fun w0 hs0 => ?_
  refine .seq ?_
  refine Wk.rg [0] rfl rfl ?_
  refine asg rfl .no (.u rfl) ?_
  refine .nil ?_
  refine .code ?_
  refine .seq ?_
  refine Wk.rg [0, 1, 2, 3, 4, 5] rfl rfl ?_
  refine bCe (ba 32 (fun _ => 0#8) ++ ba 32 (fun _ => 0#8)) rfl .no Fx.bp24_ .nil rfl (rfl) ?_
  refine bCe (ba 12 (fun _ => 0#8)) rfl .no Fx.bp26_ .nil rfl (rfl) ?_
  refine Go.Tan.bN rfl Fx.se27 Fx.zv5 (Evp.cons (.u rfl) (Evp.cons (.u rfl) (Evp.cons (.u rfl) (Evp.cons (.u rfl) Evp.nil)))) rfl (by decide) (by simp [Value.oneCell', Sh.val]) ?_; intro b8
  refine mkS textL rfl rfl Fx.cst27 (.u rfl) .here rfl rfl (by decide) ?_; intro G9 hG9 hs9
  have hK := hK.mono hG9
  refine kc rfl Fx.go16 (Eva.cons (.u rfl) (Eva.cons (.u rfl) (Eva.cons (.u rfl) (Eva.cons (.u rfl) Eva.nil)))) (Ct.rowc (Seal_ok (fun _ => 0#8) (fun _ => 0#8) (fun _ => 0#8) [] ⟨none, 0⟩ textL _ _ SlR.nul hs9 hK (by simp) (by decide))) ?_
  rintro v10 G10 μ10 hG10 ⟨L10, ov10, eL10, rfl⟩
  have hK := hK.mono hG10
  refine asg rfl .no (.u rfl) ?_
  refine .nil ?_
  have lL10 : L10.length = 20 := by rw [eL10, seal_len]; rfl
  refine .code ?_
  refine .seq ?_
  refine wk_fb .here (by first | (intro b hb; cases hb; done) | simp [keys, Res.keys]) ?_; intro GfR10 hR10 hleR10 evR10 hsR10; subst evR10
  have hK := hK.mono hleR10
  refine Wk.rg [0, 1, 2, 3, 4, 5, 6, 7, 8] rfl rfl ?_
  refine bCe (ba 32 (fun _ => 0#8) ++ ba 32 (fun _ => 0#8)) rfl .no Fx.bp24_ .nil rfl (rfl) ?_
  refine bCe (ba 12 (fun _ => 0#8)) rfl .no Fx.bp26_ .nil rfl (rfl) ?_
  refine mv rfl .no (.u rfl) ?_
  refine kc rfl Fx.go20 (Eva.cons (.u rfl) (Eva.cons (.u rfl) (Eva.cons (.u rfl) (Eva.cons (.u rfl) Eva.nil)))) (Open_ok (fun _ => 0#8) (fun _ => 0#8) (fun _ => 0#8) [] ⟨none, 0⟩ L10 _ _ SlR.nul hsR10 hK (by simp) (by omega)) ?_
  rintro _ G15 μ15 hG15 ⟨v15, L15, e15, hO15, rfl, rfl⟩
  have hK := hK.mono hG15
  have hsR10 := hsR10.mono hG15
  refine mv rfl .no (.u rfl) ?_
  refine ex rfl .no (.u rfl) rfl ?_
  refine ex rfl .no (.u rfl) rfl ?_
  refine asg rfl .no (.u rfl) ?_
  refine asg rfl .no (.u rfl) ?_
  refine .nil ?_
  rw [eL10, open_seal] at hO15
  obtain ⟨eL15, ee15⟩ := hO15.some
  refine .code ?_
  refine .seq ?_
  refine Wk.rg [0, 1, 2, 3, 4, 5, 6, 7, 8] rfl rfl ?_
  refine bCe (ba 32 (fun _ => 0#8) ++ ba 32 (fun _ => 0#8)) rfl .no Fx.bp24_ .nil rfl (rfl) ?_
  refine bCe (ba 12 (fun _ => 0#8)) rfl .no Fx.bp26_ .nil rfl (rfl) ?_
  refine mkY (15) (15) rfl Fx.se27 Fx.zv5 (.u rfl) (.u rfl) (by first | rfl | omega) (by first | rfl | omega) (by omega) (by omega) ?_; intro b21
  have lR21 : (List.replicate (15) (0#8 : Y)).length = 15 := List.length_replicate
  refine ka rfl (.inr rfl) Fx.go20 (Eva.cons (.u rfl) (Eva.cons (.u rfl) (Eva.cons (.u rfl) (Eva.cons (.u rfl) Eva.nil)))) (mtk1 .here) (open_row (fun _ => 0#8) (fun _ => 0#8) (fun _ => 0#8) [] ⟨none, 0⟩ (List.replicate 15 0#8) _ _ SlR.nul hK (by simp) (by simp)) ?_
  rintro _ G22 μ22 hG22 ⟨_, rfl, v22, L22, e22, hO22, rfl, rfl⟩
  have hK := hK.mono hG22
  have hsR10 := hsR10.mono hG22
  refine mv rfl .no (.u rfl) ?_
  refine ex rfl .no (.u rfl) rfl ?_
  refine ex rfl .no (.u rfl) rfl ?_
  refine asg rfl .no (.u rfl) ?_
  refine asg rfl .no (.u rfl) ?_
  refine .nil ?_
  rw [open_short (by simp)] at hO22
  obtain ⟨_, ee22⟩ := hO22.none
  refine .code ?_
  refine .seq ?_
  refine wk_fb (.there (.there .here)) (by first | (intro b hb; cases hb; done) | simp [keys, Res.keys]) ?_; intro GfR15 hR15 hleR15 evR15 hsR15; subst evR15
  have hK := hK.mono hleR15
  have hsR10 := hsR10.mono hleR15
  refine Wk.rg [0, 1, 2, 3, 4, 5, 6, 7, 8, 9, 10, 11, 12, 13, 14, 15, 16] rfl rfl ?_
  refine mv rfl .no (.u rfl) ?_
  refine ln rfl .no Fx.sn27 (.u rfl) ?_
  refine cp rfl .no (.u rfl) (.u rfl) rfl ?_
  refine mv rfl .no (.u rfl) ?_
  refine mv rfl (.t rfl rfl) (.u rfl) ?_
  refine sB rfl (.t rfl rfl) Fx.bs27_9 (.s rfl) (fun hc => hsR15.sc) ?_
  refine cs rfl (.t rfl rfl) (.s rfl) (.u rfl) rfl ?_
  refine pkA rfl .no (.u rfl) (.s rfl) ?_
  refine mv rfl .no (.u rfl) ?_
  refine mv rfl (.t rfl rfl) (.u rfl) ?_
  refine cp rfl (.t rfl rfl) (.s rfl) (.u rfl) rfl ?_
  refine pkA rfl .no (.u rfl) (.s rfl) ?_
  refine mv rfl .no (.u rfl) ?_
  refine mv rfl (.t rfl rfl) (.u rfl) ?_
  refine cp rfl (.t rfl rfl) (.s rfl) (.u rfl) rfl ?_
  refine pkA rfl .no (.u rfl) (.s rfl) ?_
  refine asg rfl .no (.u rfl) ?_
  refine .nil ?_
  refine .code ?_
  refine .ret ?_
  refine We.fin0 Tryd.results15 (.tmp rfl .nil) ?_
  refine ⟨rfl, congrArg Value.bool ?_⟩
  rw [lL10, eL15, text_str, ee15, ee22]; rfl

end Go.Proofs.YtoogjfldgeiapaaDoor
