/-
  DERIVED. GIVEN WITH THE SEED: THE CARDS: each row of YtjkkbmdonbcccaaGreatDoorRows.lean that lists a variable, with what it lists TIED to the program's text (the seventh form; the later family's looks); each row that meets fmt, with fmt's text TOLD by the authors' own Lean function (tested against real Go, not proved from fmt's source: count such statements apart). THE CARD IS WHAT COUNTS. Prove the row's statement (the work); the ties are given (YtjkkbmdonbcccaaGreatDoorTie.lean); close each card by the builder's one call (the guide's Derived/Test/ToyasCard.lean, 'card_holds'). Laid BY PROGRAM, IN A SANDBOX (cutbox-door.mjs). By AI agents, Wed Nov 11 2026. No macro, syntax, notation, axiom, sorry.
-/
import Derived.Test.YtjkkbmdonbcccaaGreatDoorRows
import GoSem.ClaimSeven
namespace Go.Proofs.YtjkkbmdonbcccaaGreatDoor
namespace Rows

/-- THE TIED CARD OF 'tantaluslaw24.GroupTurns'. -/
def groupTurnsCard : Claim7 := { stood := { row := groupTurnsRow, standIns := [], harness := (true, "7c4e66f2fd84241ca65e39578c5a544bdeba196e87227474bca1d31d33986909"), looks := true }, kinds := [], alts := [], laidByText := true, laidKinds := [.data], laidTests := true, laidLooks := .later }
def GroupTurnsCardSaid : Prop := Claim7.holds Tryz.pinned (.plain (OpenSpec.ofChange groupTurnsSpec)) groupTurnsCard

/-- THE TIED CARD OF 'tantaluslaw24.GroupAlone'. -/
def groupAloneCard : Claim7 := { stood := { row := groupAloneRow, standIns := [], harness := (true, "7c4e66f2fd84241ca65e39578c5a544bdeba196e87227474bca1d31d33986909"), looks := true }, kinds := [], alts := [], laidByText := true, laidKinds := [.data], laidTests := true, laidLooks := .later }
def GroupAloneCardSaid : Prop := Claim7.holds Tryz.pinned (.plain (OpenSpec.ofChange groupAloneSpec)) groupAloneCard

/-- THE TIED CARD OF 'tantaluslaw24.GroupPlays'. -/
def groupPlaysCard : Claim7 := { stood := { row := groupPlaysRow, standIns := [], harness := (true, "7c4e66f2fd84241ca65e39578c5a544bdeba196e87227474bca1d31d33986909"), looks := true }, kinds := [], alts := [], laidByText := true, laidKinds := [.data], laidTests := true, laidLooks := .later }
def GroupPlaysCardSaid : Prop := Claim7.holds Tryz.pinned (.plain (OpenSpec.ofChange groupPlaysSpec)) groupPlaysCard

/-- THE TIED CARD OF 'tantaluslaw24.GroupWhole'. -/
def groupWholeCard : Claim7 := { stood := { row := groupWholeRow, standIns := [], harness := (true, "7c4e66f2fd84241ca65e39578c5a544bdeba196e87227474bca1d31d33986909"), looks := true }, kinds := [], alts := [], laidByText := true, laidKinds := [.data], laidTests := true, laidLooks := .later }
def GroupWholeCardSaid : Prop := Claim7.holds Tryz.pinned (.plain (OpenSpec.ofChange groupWholeSpec)) groupWholeCard

/-- THE SECOND FORM's CARD OF 'tantaluslaw24.GroupTurns'. -/
def groupTurnsUptoCard : Claim7 := { stood := { row := groupTurnsUptoRow, standIns := [], harness := (true, "7c4e66f2fd84241ca65e39578c5a544bdeba196e87227474bca1d31d33986909"), looks := true }, kinds := [], alts := [], laidByText := true, laidKinds := [.data], laidTests := true, laidLooks := .later }
def GroupTurnsUptoCardSaid : Prop := Claim7.holds Tryz.pinned (.plain (OpenSpec.upto groupTurnsSpec)) groupTurnsUptoCard

/-- THE SECOND FORM's CARD OF 'tantaluslaw24.GroupAlone'. -/
def groupAloneUptoCard : Claim7 := { stood := { row := groupAloneUptoRow, standIns := [], harness := (true, "7c4e66f2fd84241ca65e39578c5a544bdeba196e87227474bca1d31d33986909"), looks := true }, kinds := [], alts := [], laidByText := true, laidKinds := [.data], laidTests := true, laidLooks := .later }
def GroupAloneUptoCardSaid : Prop := Claim7.holds Tryz.pinned (.plain (OpenSpec.upto groupAloneSpec)) groupAloneUptoCard

/-- THE SECOND FORM's CARD OF 'tantaluslaw24.GroupPlays'. -/
def groupPlaysUptoCard : Claim7 := { stood := { row := groupPlaysUptoRow, standIns := [], harness := (true, "7c4e66f2fd84241ca65e39578c5a544bdeba196e87227474bca1d31d33986909"), looks := true }, kinds := [], alts := [], laidByText := true, laidKinds := [.data], laidTests := true, laidLooks := .later }
def GroupPlaysUptoCardSaid : Prop := Claim7.holds Tryz.pinned (.plain (OpenSpec.upto groupPlaysSpec)) groupPlaysUptoCard

/-- THE SECOND FORM's CARD OF 'tantaluslaw24.GroupWhole'. -/
def groupWholeUptoCard : Claim7 := { stood := { row := groupWholeUptoRow, standIns := [], harness := (true, "7c4e66f2fd84241ca65e39578c5a544bdeba196e87227474bca1d31d33986909"), looks := true }, kinds := [], alts := [], laidByText := true, laidKinds := [.data], laidTests := true, laidLooks := .later }
def GroupWholeUptoCardSaid : Prop := Claim7.holds Tryz.pinned (.plain (OpenSpec.upto groupWholeSpec)) groupWholeUptoCard
end Rows
end Go.Proofs.YtjkkbmdonbcccaaGreatDoor
