/- The card of the law DeskNil, proved: whatever is handed in, with the listed tables as the program lays them, it returns true, and the arguments read as they did. -/
import Derived.Test.YtoifkgkandfeiaaGreatDoorDb6
namespace Go.Proofs.YtoifkgkandfeiaaGreatDoor
set_option linter.unusedSimpArgs false
set_option linter.unusedVariables false
open Go.Tan Go.RowKit Go.ChangeShapes Go.WideShapes Go.ChangeAt

theorem deskNil_w1 : Rows.deskNilRow.wfByText (OpenSpec.ofChange Rows.deskNilSpec) = true := by kernel_rfl
theorem deskNil_w3 : false = Rows.deskNilRow.goesBy Tryz.pinned.checked.prog := by kernel_rfl
theorem deskNil_w2 : Tryz.pinned.checked.prog.mainIs = some (Rows.deskNilCard.stood.harness.1, Rows.deskNilCard.stood.harness.2.toList) := by kernel_rfl
theorem deskNil_holds : Rows.DeskNilCardSaid :=
  Claim7.holds_tied_plain_at .later [] _ _ _ _ deskNil.said (fun _ h => by cases h) deskNil_w1 (fun _ h => by cases h) deskNil_row_tie rfl ⟨rfl, rfl⟩ deskNil_w2 rfl deskNil.plain deskNil_w3
end Go.Proofs.YtoifkgkandfeiaaGreatDoor
