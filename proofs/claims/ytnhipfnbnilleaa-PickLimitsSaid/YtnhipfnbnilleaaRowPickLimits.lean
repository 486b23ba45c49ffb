/- The row of the law PickLimits, proved: whatever is handed in, it returns true, and the arguments read as they did. No condition. -/
import Derived.Test.YtnhipfnbnilleaaPickY
namespace Go.Proofs.Ytnhipfnbnilleaa
open Go.Tan Go.RowKit Go.ChangeShapes Go.WideShapes Go.ChangeAt

set_option maxRecDepth 100000 in
theorem pickLimits_lifted (os : Os) (started : os.Started) (H : Type) (enc : TypeId × Value → H) :
    ReturnsInHanded {} Try.checked os 3 .any (Rows.pickLimitsSpec.pre6 enc Try.prog Try.f3 Rows.pickLimitsRow.domain false) (Rows.pickLimitsSpec.post enc Try.prog Try.f3 false true false false) := by
  refine returnsInHanded_of_change_sized (C := Try.checked) tanOwn started (by kernel_rfl) Try.func3
    (ChangeSpec.witness6 (enc := enc) (C := Try.checked) false ⟨#[], #[.agg #[.int .i64 0, .int .i64 0, .int .i64 0, .int .i64 0, .int .i64 0, .int .i64 0, .int .i64 0], .int .i64 0], []⟩ 8 (by kernel_rfl) (by kernel_rfl) (by kernel_rfl) (by kernel_rfl)) ?_
  intro W base args ds gs before hval0 hW hcnd hwt0 _
  have hval : ∀ (j : Nat) t v, Try.f3.params[j]? = some t → args[j]? = some v → Value.okWide Try.prog W .any base t v := hval0
  have hW2 : DataW.Whole enc Try.prog Try.f3.params.toList [] false W args.toList ds gs before := hW
  have hwt : (DataW.weightsEach Try.prog (Try.f3.params.toList ++ []) (ds ++ gs)).all (· ≤ reachBytes) = true := hwt0
  obtain ⟨p, q, hA, hV, hq, hfz, hnd⟩ := hW2
  rw [Try.params3] at hA hval hwt
  obtain ⟨v0, v1, d0, d1, p0, p1, rfl, rfl, hp, r0, r1⟩ := trodAll_two hA
  obtain ⟨rfl, rfl⟩ := trodVars_none hV
  refine of_ct tanLaid hW rfl ?_ rfl (by kernel_rfl) Try.underlying4 ?_
  · rw [Try.params3]; exact (List.forall_mem_cons.2 ⟨⟨by kernel_rfl, of_decide_eq_true (by kernel_rfl)⟩, (List.forall_mem_cons.2 ⟨⟨by kernel_rfl, of_decide_eq_true (by kernel_rfl)⟩, List.forall_mem_nil _⟩)⟩)
  · obtain ⟨o, ho⟩ := opts_of (Rg.arg (i := 0) r0 hwt rfl rfl)
    obtain rfl := agg_of Try.underlying25 (hval 0 25 v0 rfl rfl) ho
    obtain ⟨n1, rfl, hn1⟩ := int_of Try.underlying3 (hval 1 3 v1 rfl rfl)
    exact PickLimits_ok _ o n1
theorem pickLimits_holds : Rows.PickLimitsSaid :=
  OpenClaim.holds_of_wide 3 Try.f3 rfl rfl rfl rfl rfl rfl rfl ⟨rfl, rfl, rfl, rfl, rfl⟩ rfl rfl rfl rfl rfl (by kernel_rfl) Try.func3 (by kernel_rfl)
    (of_decide_eq_true (by kernel_rfl)) (by unfold Func.isWrapper; first | (rw [if_pos (by decide +kernel)]; kernel_rfl) | (rw [if_neg (by decide +kernel)]; exact ⟨rfl, rfl⟩))
    (fun os started H enc _ => pickLimits_lifted os started H enc)
end Go.Proofs.Ytnhipfnbnilleaa
