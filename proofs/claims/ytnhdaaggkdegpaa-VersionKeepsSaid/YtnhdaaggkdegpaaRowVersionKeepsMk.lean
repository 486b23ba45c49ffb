/- The row of the law VersionKeeps, proved: whatever is handed in, it returns true, and the arguments read as they did. -/
import Derived.Test.YtnhdaaggkdegpaaMk5
namespace Go.Proofs.Ytnhdaaggkdegpaa
set_option linter.unusedSimpArgs false
set_option linter.unusedVariables false
open Go.Tan Go.RowKit Go.ChangeShapes Go.WideShapes Go.ChangeAt

set_option maxRecDepth 100000 in
set_option maxHeartbeats 1000000 in
theorem versionKeeps_lifted (os : Os) (started : os.Started) (H : Type) (enc : TypeId × Value → H) :
    ReturnsInHanded {} Try.checked os 7 .any (Rows.versionKeepsSpec.pre6 enc Try.prog Try.f7 Rows.versionKeepsRow.domain false) (Rows.versionKeepsSpec.post enc Try.prog Try.f7 false true false false) := by
  refine returnsInHanded_of_change_sized (C := Try.checked) tanOwn started (by kernel_rfl) Try.func7
    (ChangeSpec.witness6 (enc := enc) (C := Try.checked) false ⟨#[], #[.agg (List.replicate 5 (.slice none 0 0) ++ List.replicate 9 (.int .u64 0) : List Value).toArray, .agg (List.replicate 9 (.int .u64 0) ++ List.replicate 2 (.slice none 0 0) : List Value).toArray], []⟩ 8 (by kernel_rfl) (by kernel_rfl) (by kernel_rfl) (by kernel_rfl)) ?_
  intro W base args ds gs before hval0 hW hcnd hwt0 _
  have hval : ∀ (j : Nat) t v, Try.f7.params[j]? = some t → args[j]? = some v → Value.okWide Try.prog W .any base t v := hval0
  have hW2 : DataW.Whole enc Try.prog Try.f7.params.toList [] false W args.toList ds gs before := hW
  have hwt : (DataW.weightsEach Try.prog (Try.f7.params.toList ++ []) (ds ++ gs)).all (· ≤ reachBytes) = true := hwt0
  obtain ⟨p, q, hA, hV, hq, hfz, hnd⟩ := hW2
  rw [Try.params7] at hA hval hwt
  obtain ⟨v0, v1, d0, d1, p0, p1, rfl, rfl, hp, r0, r1⟩ := trodAll_two hA
  obtain ⟨rfl, rfl⟩ := trodVars_none hV
  refine of_ct tanLaid hW rfl ?_ rfl (by kernel_rfl) Try.underlying4 ?_
  · rw [Try.params7]; exact (List.forall_mem_cons.2 ⟨⟨by kernel_rfl, of_decide_eq_true (by kernel_rfl)⟩, (List.forall_mem_cons.2 ⟨⟨by kernel_rfl, of_decide_eq_true (by kernel_rfl)⟩, List.forall_mem_nil _⟩)⟩)
  · obtain ⟨s, hd, hs0, hst, hsu, hsq⟩ := state_of (by decide) (Rg.arg (i := 0) r0 hwt rfl rfl)
    obtain rfl := agg_of Try.underlying27 (hval 0 27 v0 rfl rfl) hs0
    obtain ⟨e, ha, hde, he0, her, hla, hld, heq⟩ := edit_of (by decide) (Rg.arg (i := 1) r1 hwt rfl rfl)
    obtain rfl := agg_of Try.underlying32 (hval 1 32 v1 rfl rfl) he0
    exact VersionKeeps_ok s hd e ha hde _ hst her hsu.2.2.2.2
theorem versionKeeps_holds : Rows.VersionKeepsSaid :=
  OpenClaim.holds_of_wide 7 Try.f7 rfl rfl rfl rfl rfl rfl rfl ⟨rfl, rfl, rfl, rfl, rfl⟩ rfl rfl rfl rfl rfl (by kernel_rfl) Try.func7 (by kernel_rfl)
    (of_decide_eq_true (by kernel_rfl)) (by unfold Func.isWrapper; first | (rw [if_pos (by decide +kernel)]; kernel_rfl) | (rw [if_neg (by decide +kernel)]; exact ⟨rfl, rfl⟩))
    (fun os started H enc _ => versionKeeps_lifted os started H enc)
end Go.Proofs.Ytnhdaaggkdegpaa
