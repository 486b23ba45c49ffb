/- The row of the law PickThere, proved: whatever is handed in, it returns true, and the arguments read as they did. No condition. -/
import Derived.Test.YtnhipfnbnilleaaPickY
import Derived.Test.YtnhipfnbnilleaaPickJ
namespace Go.Proofs.Ytnhipfnbnilleaa
open Go.Tan Go.RowKit Go.ChangeShapes Go.WideShapes Go.ChangeAt

set_option maxRecDepth 100000 in
theorem pickThere_lifted (os : Os) (started : os.Started) (H : Type) (enc : TypeId × Value → H) :
    ReturnsInHanded {} Try.checked os 5 .any (Rows.pickThereSpec.pre6 enc Try.prog Try.f5 Rows.pickThereRow.domain false) (Rows.pickThereSpec.post enc Try.prog Try.f5 false true false false) := by
  refine returnsInHanded_of_change_sized (C := Try.checked) tanOwn started (by kernel_rfl) Try.func5
    (ChangeSpec.witness6 (enc := enc) (C := Try.checked) false ⟨#[], #[.agg #[.slice none 0 0, .slice none 0 0, .slice none 0 0, .slice none 0 0, .slice none 0 0, .int .u64 0, .int .u64 0, .int .u64 0, .int .u64 0, .int .u64 0, .int .u64 0, .int .u64 0, .int .u64 0, .int .u64 0], .agg #[.int .i64 0, .int .i64 0, .int .i64 0, .int .i64 0, .int .i64 0, .int .i64 0, .int .i64 0], .int .u64 0], []⟩ 8 (by kernel_rfl) (by kernel_rfl) (by kernel_rfl) (by kernel_rfl)) ?_
  intro W base args ds gs before hval0 hW hcnd hwt0 _
  have hval : ∀ (j : Nat) t v, Try.f5.params[j]? = some t → args[j]? = some v → Value.okWide Try.prog W .any base t v := hval0
  have hW2 : DataW.Whole enc Try.prog Try.f5.params.toList [] false W args.toList ds gs before := hW
  have hwt : (DataW.weightsEach Try.prog (Try.f5.params.toList ++ []) (ds ++ gs)).all (· ≤ reachBytes) = true := hwt0
  obtain ⟨p, q, hA, hV, hq, hfz, hnd⟩ := hW2
  rw [Try.params5] at hA hval hwt
  obtain ⟨v0, v1, v2, d0, d1, d2, p0, p1, p2, rfl, rfl, hp, r0, r1, r2⟩ := trodAll_three hA
  obtain ⟨rfl, rfl⟩ := trodVars_none hV
  refine of_ct tanLaid hW rfl ?_ rfl (by kernel_rfl) Try.underlying4 ?_
  · rw [Try.params5]; exact (List.forall_mem_cons.2 ⟨⟨by kernel_rfl, of_decide_eq_true (by kernel_rfl)⟩, (List.forall_mem_cons.2 ⟨⟨by kernel_rfl, of_decide_eq_true (by kernel_rfl)⟩, (List.forall_mem_cons.2 ⟨⟨by kernel_rfl, of_decide_eq_true (by kernel_rfl)⟩, List.forall_mem_nil _⟩)⟩)⟩)
  · obtain ⟨s, hd, hs0, hst⟩ := state_of (Rg.arg (i := 0) r0 hwt rfl rfl)
    obtain rfl := agg_of Try.underlying35 (hval 0 35 v0 rfl rfl) hs0
    obtain ⟨o, ho⟩ := opts_of (Rg.arg (i := 1) r1 hwt rfl rfl)
    obtain rfl := agg_of Try.underlying25 (hval 1 25 v1 rfl rfl) ho
    obtain ⟨n2, rfl, hn2⟩ := int_of Try.underlying32 (hval 2 32 v2 rfl rfl)
    rw [show IntKind.u64.min = 0 by decide, show IntKind.u64.max = 18446744073709551615 by decide] at hn2
    exact PickThere_ok s hd _ hst o n2 hn2.1 (Int.lt_of_le_of_lt hn2.2 (by decide))
theorem pickThere_holds : Rows.PickThereSaid :=
  OpenClaim.holds_of_wide 5 Try.f5 rfl rfl rfl rfl rfl rfl rfl ⟨rfl, rfl, rfl, rfl, rfl⟩ rfl rfl rfl rfl rfl (by kernel_rfl) Try.func5 (by kernel_rfl)
    (of_decide_eq_true (by kernel_rfl)) (by unfold Func.isWrapper; first | (rw [if_pos (by decide +kernel)]; kernel_rfl) | (rw [if_neg (by decide +kernel)]; exact ⟨rfl, rfl⟩))
    (fun os started H enc _ => pickThere_lifted os started H enc)
end Go.Proofs.Ytnhipfnbnilleaa
