/- The row of the law VersionBack, proved: whatever is handed in (of at most 1048576 values and letters together), it returns true, and the arguments read as they did. -/
import Derived.Test.YtnhdaaggkdegpaaVb5
namespace Go.Proofs.Ytnhdaaggkdegpaa
set_option linter.unusedSimpArgs false
set_option linter.unusedVariables false
open Go.Tan Go.RowKit Go.ChangeShapes Go.WideShapes Go.ChangeAt

set_option maxRecDepth 100000 in
set_option maxHeartbeats 1000000 in
theorem versionBack_lifted (os : Os) (started : os.Started) (H : Type) (enc : TypeId × Value → H) (F : Stop.Interp) :
    ReturnsInHanded {} Try.checked os 6 .any ((Rows.OpenSpec.upto Rows.versionBackSpec).pre6 enc Try.prog Try.f6 Rows.versionBackUptoRow.domain false) (((Rows.OpenSpec.upto Rows.versionBackSpec).at F).post enc Try.prog Try.f6 false true false false) := by
  refine returnsInHanded_of_cond (C := Try.checked) (s := Rows.OpenSpec.upto Rows.versionBackSpec) (k := Rows.uptoSmall) rfl tanOwn started (by kernel_rfl) Try.func6
    (OpenSpec.witness (enc := enc) (C := Try.checked) (s := Rows.OpenSpec.upto Rows.versionBackSpec) (k := Rows.uptoSmall) rfl false ⟨#[], #[.agg (List.replicate 9 (.int .u64 0) ++ List.replicate 2 (.slice none 0 0) : List Value).toArray, .slice none 0 0], []⟩ 8 (by kernel_rfl) (by kernel_rfl) (by kernel_rfl)
      (x := ([.agg [.lit (.int .u64 0), .lit (.int .u64 0), .lit (.int .u64 0), .lit (.int .u64 0), .agg (List.replicate 5 (.lit (.int .u64 0))), .nil, .nil], .nil], [], [])) (by kernel_rfl) rfl (by kernel_rfl)) ?_
  intro W base args ds gs before hval0 hW _ hup0 _
  have hval : ∀ (j : Nat) t v, Try.f6.params[j]? = some t → args[j]? = some v → Value.okWide Try.prog W .any base t v := hval0
  have hW2 : DataW.Whole enc Try.prog Try.f6.params.toList [] false W args.toList ds gs before := hW
  have hW3 : DataW.Whole enc Try.prog Try.f6.params.toList Rows.versionBackSpec.vars false W args.toList ds gs before := hW
  show Calls Try.prog 6 args W fun e W' => ∃ v, e = .returned v ∧ Rows.versionBackSpec.post enc Try.prog Try.f6 false true false false W args v W'
  obtain ⟨p, q, hA, hV, hq, hfz, hnd⟩ := hW2
  rw [Try.params6] at hA hval
  obtain ⟨v0, v1, d0, d1, p0, p1, rfl, rfl, hp, r0, r1⟩ := trodAll_two hA
  obtain ⟨rfl, rfl⟩ := trodVars_none hV
  have hup : Rows.uptoSmall H [d0, d1] = true := hup0
  refine of_ct tanLaid hW3 rfl ?_ rfl (by kernel_rfl) Try.underlying4 ?_
  · rw [Try.params6]; exact (List.forall_mem_cons.2 ⟨⟨by kernel_rfl, of_decide_eq_true (by kernel_rfl)⟩, (List.forall_mem_cons.2 ⟨⟨by kernel_rfl, of_decide_eq_true (by kernel_rfl)⟩, List.forall_mem_nil _⟩)⟩)
  · obtain ⟨e, ha, hde, he0, her, hla, hld, heq⟩ := edit_of (by decide) (Rg.argU (i := 0) r0 hup rfl)
    obtain rfl := agg_of Try.underlying32 (hval 0 32 v0 rfl rfl) he0
    obtain ⟨hx, xs, hx0, hsx, _, hl⟩ := (Rg.argU (i := 1) r1 hup rfl).bsl Try.underlying33 Try.underlying5 Fx.co5 Fx.by5
    obtain rfl := sl_of Try.underlying33 (hval 1 33 v1 rfl rfl) hx0 rfl
    exact VersionBack_ok e ha hde xs hx _ her hsx (Nat.le_trans hl (by decide)) heq
theorem versionBackUpto_holds : Rows.VersionBackUptoSaid :=
  OpenClaim.holds_of_cond 6 Try.f6 rfl rfl rfl rfl rfl rfl rfl ⟨rfl, rfl, rfl, rfl, rfl⟩ rfl rfl rfl rfl rfl (by kernel_rfl) Try.func6 (by kernel_rfl)
    (of_decide_eq_true (by kernel_rfl)) (by unfold Func.isWrapper; first | (rw [if_pos (by decide +kernel)]; kernel_rfl) | (rw [if_neg (by decide +kernel)]; exact ⟨rfl, rfl⟩))
    (fun os started H enc _ F => versionBack_lifted os started H enc F)
end Go.Proofs.Ytnhdaaggkdegpaa
