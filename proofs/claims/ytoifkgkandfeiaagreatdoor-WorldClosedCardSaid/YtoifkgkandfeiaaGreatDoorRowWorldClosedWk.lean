/- The card of the law WorldClosed, proved: whatever is handed in, with the listed tables as the program lays them, it returns true, and the arguments read as they did. -/
import Derived.Test.YtoifkgkandfeiaaGreatDoorWk6
namespace Go.Proofs.YtoifkgkandfeiaaGreatDoor
set_option linter.unusedSimpArgs false
set_option linter.unusedVariables false
open Go.Tan Go.RowKit Go.ChangeShapes Go.WideShapes Go.ChangeAt

theorem worldClosed_w1 : Rows.worldClosedRow.wfByText (OpenSpec.ofChange Rows.worldClosedSpec) = true := by kernel_rfl
theorem worldClosed_w3 : false = Rows.worldClosedRow.goesBy Tryz.pinned.checked.prog := by kernel_rfl
theorem worldClosed_w2 : Tryz.pinned.checked.prog.mainIs = some (Rows.worldClosedCard.stood.harness.1, Rows.worldClosedCard.stood.harness.2.toList) := by kernel_rfl
theorem worldClosed_holds : Rows.WorldClosedCardSaid :=
  Claim7.holds_tied_plain_at .later [] _ _ _ _ worldClosed.said (fun _ h => by cases h) worldClosed_w1 (fun _ h => by cases h) worldClosed_row_tie rfl ⟨rfl, rfl⟩ worldClosed_w2 rfl worldClosed.plain worldClosed_w3
end Go.Proofs.YtoifkgkandfeiaaGreatDoor
