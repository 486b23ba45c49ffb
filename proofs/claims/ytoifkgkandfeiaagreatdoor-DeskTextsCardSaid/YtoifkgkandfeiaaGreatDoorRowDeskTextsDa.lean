/- The card of the law DeskTexts, proved: whatever is handed in, with the listed tables as the program lays them, it returns true, and the arguments read as they did. -/
import Derived.Test.YtoifkgkandfeiaaGreatDoorDa6
namespace Go.Proofs.YtoifkgkandfeiaaGreatDoor
set_option linter.unusedSimpArgs false
set_option linter.unusedVariables false
open Go.Tan Go.RowKit Go.ChangeShapes Go.WideShapes Go.ChangeAt

theorem deskTexts_w1 : Rows.deskTextsRow.wfByText (OpenSpec.ofChange Rows.deskTextsSpec) = true := by kernel_rfl
theorem deskTexts_w3 : false = Rows.deskTextsRow.goesBy Tryz.pinned.checked.prog := by kernel_rfl
theorem deskTexts_w2 : Tryz.pinned.checked.prog.mainIs = some (Rows.deskTextsCard.stood.harness.1, Rows.deskTextsCard.stood.harness.2.toList) := by kernel_rfl
theorem deskTexts_holds : Rows.DeskTextsCardSaid :=
  Claim7.holds_tied_plain_at .later [] _ _ _ _ deskTexts.said (fun _ h => by cases h) deskTexts_w1 (fun _ h => by cases h) deskTexts_row_tie rfl ⟨rfl, rfl⟩ deskTexts_w2 rfl deskTexts.plain deskTexts_w3
end Go.Proofs.YtoifkgkandfeiaaGreatDoor
