/- The card of the law DeskParses, proved: whatever is handed in, with the listed tables as the program lays them, it returns true, and the arguments read as they did. -/
import Derived.Test.YtoifkgkandfeiaaGreatDoorDc6
namespace Go.Proofs.YtoifkgkandfeiaaGreatDoor
set_option linter.unusedSimpArgs false
set_option linter.unusedVariables false
open Go.Tan Go.RowKit Go.ChangeShapes Go.WideShapes Go.ChangeAt

theorem deskParses_w1 : Rows.deskParsesRow.wfByText (OpenSpec.ofChange Rows.deskParsesSpec) = true := by kernel_rfl
theorem deskParses_w3 : false = Rows.deskParsesRow.goesBy Tryz.pinned.checked.prog := by kernel_rfl
theorem deskParses_w2 : Tryz.pinned.checked.prog.mainIs = some (Rows.deskParsesCard.stood.harness.1, Rows.deskParsesCard.stood.harness.2.toList) := by kernel_rfl
theorem deskParses_holds : Rows.DeskParsesCardSaid :=
  Claim7.holds_tied_plain_at .later [] _ _ _ _ deskParses.said (fun _ h => by cases h) deskParses_w1 (fun _ h => by cases h) deskParses_row_tie rfl ⟨rfl, rfl⟩ deskParses_w2 rfl deskParses.plain deskParses_w3
end Go.Proofs.YtoifkgkandfeiaaGreatDoor
