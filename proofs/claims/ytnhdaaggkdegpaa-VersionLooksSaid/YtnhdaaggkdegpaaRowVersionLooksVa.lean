/- The row of the law VersionLooks, proved: whatever is handed in, it returns true, and the arguments read as they did. -/
import Derived.Test.YtnhdaaggkdegpaaVa5
namespace Go.Proofs.Ytnhdaaggkdegpaa
set_option linter.unusedSimpArgs false
set_option linter.unusedVariables false
open Go.Tan Go.RowKit Go.ChangeShapes Go.WideShapes Go.ChangeAt

namespace FxRowVersionLooks
theorem co52 : Try.prog.cellsOf 52 = 2 := by kernel_rfl
end FxRowVersionLooks
set_option maxRecDepth 100000 in
set_option maxHeartbeats 1000000 in
theorem versionLooks_lifted (os : Os) (started : os.Started) (H : Type) (enc : TypeId × Value → H) :
    ReturnsInHanded {} Try.checked os 8 .any (Rows.versionLooksSpec.pre6 enc Try.prog Try.f8 Rows.versionLooksRow.domain false) (Rows.versionLooksSpec.post enc Try.prog Try.f8 false true false false) := by
  refine returnsInHanded_of_change_sized (C := Try.checked) tanOwn started (by kernel_rfl) Try.func8
    (ChangeSpec.witness6 (enc := enc) (C := Try.checked) false ⟨#[], #[.agg (List.replicate 5 (.slice none 0 0) ++ List.replicate 9 (.int .u64 0) : List Value).toArray, .int .i64 0, .agg (List.replicate 2 (.string ByteArray.empty) : List Value).toArray], []⟩ 8 (by kernel_rfl) (by kernel_rfl) (by kernel_rfl) (by kernel_rfl)) ?_
  intro W base args ds gs before hval0 hW hcnd hwt0 _
  have hval : ∀ (j : Nat) t v, Try.f8.params[j]? = some t → args[j]? = some v → Value.okWide Try.prog W .any base t v := hval0
  have hW2 : DataW.Whole enc Try.prog Try.f8.params.toList [] false W args.toList ds gs before := hW
  have hwt : (DataW.weightsEach Try.prog (Try.f8.params.toList ++ []) (ds ++ gs)).all (· ≤ reachBytes) = true := hwt0
  obtain ⟨p, q, hA, hV, hq, hfz, hnd⟩ := hW2
  rw [Try.params8] at hA hval hwt
  obtain ⟨v0, v1, v2, d0, d1, d2, p0, p1, p2, rfl, rfl, hp, r0, r1, r2⟩ := trodAll_three hA
  obtain ⟨rfl, rfl⟩ := trodVars_none hV
  refine of_ct tanLaid hW rfl ?_ rfl (by kernel_rfl) Try.underlying4 ?_
  · rw [Try.params8]; exact (List.forall_mem_cons.2 ⟨⟨by kernel_rfl, of_decide_eq_true (by kernel_rfl)⟩, (List.forall_mem_cons.2 ⟨⟨by kernel_rfl, of_decide_eq_true (by kernel_rfl)⟩, (List.forall_mem_cons.2 ⟨⟨by kernel_rfl, of_decide_eq_true (by kernel_rfl)⟩, List.forall_mem_nil _⟩)⟩)⟩)
  · obtain ⟨s, hd, hs0, hst, hsu, hsq⟩ := state_of (by decide) (Rg.arg (i := 0) r0 hwt rfl rfl)
    obtain rfl := agg_of Try.underlying27 (hval 0 27 v0 rfl rfl) hs0
    obtain ⟨n1, rfl, hn1⟩ := int_of Try.underlying3 (hval 1 3 v1 rfl rfl)
    have hT := Rg.arg (i := 2) r2 hwt rfl rfl
    have hTl := hT.alen Try.underlying52
    rw [FxRowVersionLooks.co52] at hTl
    obtain ⟨k0, h0, _⟩ := (hT.elm Try.underlying52 (i := 0) (by decide) Fx.co9).str Try.underlying9
    obtain ⟨k1, h1, _⟩ := (hT.elm Try.underlying52 (i := 1) (by decide) Fx.co9).str Try.underlying9
    have hT2 : v2.cells.toList = [.string k0, .string k1] := by rw [split2 (cs := v2.cells.toList) (a := 1) (b := 1) hTl]; rw [show ((v2.cells.toList).drop 0).take 1 = [.string k0] from h0, show ((v2.cells.toList).drop 1).take 1 = [.string k1] from h1]; rfl
    obtain rfl := arr_of Try.underlying52 (hval 2 52 v2 rfl rfl) hT2
    exact VersionLooks_ok s hd _ hst n1 k0 k1
theorem versionLooks_holds : Rows.VersionLooksSaid :=
  OpenClaim.holds_of_wide 8 Try.f8 rfl rfl rfl rfl rfl rfl rfl ⟨rfl, rfl, rfl, rfl, rfl⟩ rfl rfl rfl rfl rfl (by kernel_rfl) Try.func8 (by kernel_rfl)
    (of_decide_eq_true (by kernel_rfl)) (by unfold Func.isWrapper; first | (rw [if_pos (by decide +kernel)]; kernel_rfl) | (rw [if_neg (by decide +kernel)]; exact ⟨rfl, rfl⟩))
    (fun os started H enc _ => versionLooks_lifted os started H enc)
end Go.Proofs.Ytnhdaaggkdegpaa
