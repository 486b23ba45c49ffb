/-
  DERIVED. GIVEN WITH THE SEED: THE CARDS: each row of YtggleibgadkodaaGreatDoorRows.lean that lists a variable, with what it lists TIED to the program's text (the seventh form; the later family's looks); each row that meets fmt, with fmt's text TOLD by the authors' own Lean function (tested against real Go, not proved from fmt's source: count such statements apart). THE CARD IS WHAT COUNTS. Prove the row's statement (the work); the ties are given (YtggleibgadkodaaGreatDoorTie.lean); close each card by the builder's one call (the guide's Derived/Test/ToyasCard.lean, 'card_holds'). Laid BY PROGRAM, IN A SANDBOX (cutbox-door.mjs). By AI agents, Wed Nov 11 2026. No macro, syntax, notation, axiom, sorry.
-/
import Derived.Test.YtggleibgadkodaaGreatDoorRows
import GoSem.ClaimSeven
namespace Go.Proofs.YtggleibgadkodaaGreatDoor
namespace Rows

/-- THE TIED CARD OF 'tantaluslaw24.GroupNil'. -/
def groupNilCard : Claim7 := { stood := { row := groupNilRow, standIns := [], harness := (true, "42c7a1772e9c8dc3315c99f9471aa01a0c435fe775d3aa7dd8fe5183903622bd"), looks := true }, kinds := [], alts := [], laidByText := true, laidKinds := [.data], laidTests := true, laidLooks := .later }
def GroupNilCardSaid : Prop := Claim7.holds Tryz.pinned (.plain (OpenSpec.ofChange groupNilSpec)) groupNilCard

/-- THE TIED CARD OF 'tantaluslaw23.DbNil'. -/
def dbNilCard : Claim7 := { stood := { row := dbNilRow, standIns := [], harness := (true, "42c7a1772e9c8dc3315c99f9471aa01a0c435fe775d3aa7dd8fe5183903622bd"), looks := true }, kinds := [], alts := [], laidByText := true, laidKinds := [.data], laidTests := true, laidLooks := .later }
def DbNilCardSaid : Prop := Claim7.holds Tryz.pinned (.plain (OpenSpec.ofChange dbNilSpec)) dbNilCard

/-- THE SECOND FORM's CARD OF 'tantaluslaw24.GroupNil'. -/
def groupNilUptoCard : Claim7 := { stood := { row := groupNilUptoRow, standIns := [], harness := (true, "42c7a1772e9c8dc3315c99f9471aa01a0c435fe775d3aa7dd8fe5183903622bd"), looks := true }, kinds := [], alts := [], laidByText := true, laidKinds := [.data], laidTests := true, laidLooks := .later }
def GroupNilUptoCardSaid : Prop := Claim7.holds Tryz.pinned (.plain (OpenSpec.upto groupNilSpec)) groupNilUptoCard

/-- THE SECOND FORM's CARD OF 'tantaluslaw23.DbNil'. -/
def dbNilUptoCard : Claim7 := { stood := { row := dbNilUptoRow, standIns := [], harness := (true, "42c7a1772e9c8dc3315c99f9471aa01a0c435fe775d3aa7dd8fe5183903622bd"), looks := true }, kinds := [], alts := [], laidByText := true, laidKinds := [.data], laidTests := true, laidLooks := .later }
def DbNilUptoCardSaid : Prop := Claim7.holds Tryz.pinned (.plain (OpenSpec.upto dbNilSpec)) dbNilUptoCard
end Rows
end Go.Proofs.YtggleibgadkodaaGreatDoor
