/-
  DERIVED. GIVEN WITH THE SEED: THE CARDS: each row of YtbdnclpopappeaaGreatDoorRows.lean that lists a variable, with what it lists TIED to the program's text (the seventh form; the later family's looks); each row that meets fmt, with fmt's text TOLD by the authors' own Lean function (tested against real Go, not proved from fmt's source: count such statements apart). THE CARD IS WHAT COUNTS. Prove the row's statement (the work); the ties are given (YtbdnclpopappeaaGreatDoorTie.lean); close each card by the builder's one call (the guide's Derived/Test/ToyasCard.lean, 'card_holds'). Laid BY PROGRAM, IN A SANDBOX (cutbox-door.mjs). By AI agents, Wed Nov 11 2026. No macro, syntax, notation, axiom, sorry.
-/
import Derived.Test.YtbdnclpopappeaaGreatDoorRows
import GoSem.ClaimSeven
namespace Go.Proofs.YtbdnclpopappeaaGreatDoor
namespace Rows

/-- THE TIED CARD OF 'tantaluslaw17.TableBuilds'. -/
def tableBuildsCard : Claim7 := { stood := { row := tableBuildsRow, standIns := [], harness := (true, "0b0fd4b8ed943aba32a1d56a6c2842f05fde9ef3fa6c9a969fd60ec9e10f8d76"), looks := true }, kinds := [], alts := [], laidByText := true, laidKinds := [.data, .data], laidTests := true, laidLooks := .later }
def TableBuildsCardSaid : Prop := Claim7.holds Tryz.pinned (.plain (OpenSpec.ofChange tableBuildsSpec)) tableBuildsCard

/-- THE TIED CARD OF 'tantaluslaw17.TableGets'. -/
def tableGetsCard : Claim7 := { stood := { row := tableGetsRow, standIns := [], harness := (true, "0b0fd4b8ed943aba32a1d56a6c2842f05fde9ef3fa6c9a969fd60ec9e10f8d76"), looks := true }, kinds := [], alts := [], laidByText := true, laidKinds := [.data, .data], laidTests := true, laidLooks := .later }
def TableGetsCardSaid : Prop := Claim7.holds Tryz.pinned (.plain (OpenSpec.ofChange tableGetsSpec)) tableGetsCard

/-- THE TIED CARD OF 'tantaluslaw17.TableReads'. -/
def tableReadsCard : Claim7 := { stood := { row := tableReadsRow, standIns := [], harness := (true, "0b0fd4b8ed943aba32a1d56a6c2842f05fde9ef3fa6c9a969fd60ec9e10f8d76"), looks := true }, kinds := [], alts := [], laidByText := true, laidKinds := [.data, .data], laidTests := true, laidLooks := .later }
def TableReadsCardSaid : Prop := Claim7.holds Tryz.pinned (.plain (OpenSpec.ofChange tableReadsSpec)) tableReadsCard

/-- THE SECOND FORM's CARD OF 'tantaluslaw17.TableBuilds'. -/
def tableBuildsUptoCard : Claim7 := { stood := { row := tableBuildsUptoRow, standIns := [], harness := (true, "0b0fd4b8ed943aba32a1d56a6c2842f05fde9ef3fa6c9a969fd60ec9e10f8d76"), looks := true }, kinds := [], alts := [], laidByText := true, laidKinds := [.data, .data], laidTests := true, laidLooks := .later }
def TableBuildsUptoCardSaid : Prop := Claim7.holds Tryz.pinned (.plain (OpenSpec.upto tableBuildsSpec)) tableBuildsUptoCard

/-- THE SECOND FORM's CARD OF 'tantaluslaw17.TableGets'. -/
def tableGetsUptoCard : Claim7 := { stood := { row := tableGetsUptoRow, standIns := [], harness := (true, "0b0fd4b8ed943aba32a1d56a6c2842f05fde9ef3fa6c9a969fd60ec9e10f8d76"), looks := true }, kinds := [], alts := [], laidByText := true, laidKinds := [.data, .data], laidTests := true, laidLooks := .later }
def TableGetsUptoCardSaid : Prop := Claim7.holds Tryz.pinned (.plain (OpenSpec.upto tableGetsSpec)) tableGetsUptoCard

/-- THE SECOND FORM's CARD OF 'tantaluslaw17.TableReads'. -/
def tableReadsUptoCard : Claim7 := { stood := { row := tableReadsUptoRow, standIns := [], harness := (true, "0b0fd4b8ed943aba32a1d56a6c2842f05fde9ef3fa6c9a969fd60ec9e10f8d76"), looks := true }, kinds := [], alts := [], laidByText := true, laidKinds := [.data, .data], laidTests := true, laidLooks := .later }
def TableReadsUptoCardSaid : Prop := Claim7.holds Tryz.pinned (.plain (OpenSpec.upto tableReadsSpec)) tableReadsUptoCard
end Rows
end Go.Proofs.YtbdnclpopappeaaGreatDoor
