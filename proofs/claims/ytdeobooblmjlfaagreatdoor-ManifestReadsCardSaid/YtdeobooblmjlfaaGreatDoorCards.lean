/-
  DERIVED. GIVEN WITH THE SEED: THE CARDS: each row of YtdeobooblmjlfaaGreatDoorRows.lean that lists a variable, with what it lists TIED to the program's text (the seventh form; the later family's looks); each row that meets fmt, with fmt's text TOLD by the authors' own Lean function (tested against real Go, not proved from fmt's source: count such statements apart). THE CARD IS WHAT COUNTS. Prove the row's statement (the work); the ties are given (YtdeobooblmjlfaaGreatDoorTie.lean); close each card by the builder's one call (the guide's Derived/Test/ToyasCard.lean, 'card_holds'). Laid BY PROGRAM, IN A SANDBOX (cutbox-door.mjs). By AI agents, Wed Nov 11 2026. No macro, syntax, notation, axiom, sorry.
-/
import Derived.Test.YtdeobooblmjlfaaGreatDoorRows
import GoSem.ClaimSeven
namespace Go.Proofs.YtdeobooblmjlfaaGreatDoor
namespace Rows

/-- THE TIED CARD OF 'tantaluslaw19.ManifestReads'. -/
def manifestReadsCard : Claim7 := { stood := { row := manifestReadsRow, standIns := [], harness := (true, "91dc157a066f1ac2decd2bd84459491dfc73f47c5958eac893a5b418e9dd1931"), looks := false }, kinds := [], alts := [], laidByText := true, laidKinds := [.data, .data], laidTests := true, laidLooks := .later }
def ManifestReadsCardSaid : Prop := Claim7.holds Tryz.pinned (.plain (OpenSpec.ofChange manifestReadsSpec)) manifestReadsCard

/-- THE TIED CARD OF 'tantaluslaw19.ManifestLays'. -/
def manifestLaysCard : Claim7 := { stood := { row := manifestLaysRow, standIns := [], harness := (true, "91dc157a066f1ac2decd2bd84459491dfc73f47c5958eac893a5b418e9dd1931"), looks := false }, kinds := [], alts := [], laidByText := true, laidKinds := [.data, .data], laidTests := true, laidLooks := .later }
def ManifestLaysCardSaid : Prop := Claim7.holds Tryz.pinned (.plain (OpenSpec.ofChange manifestLaysSpec)) manifestLaysCard

/-- THE SECOND FORM's CARD OF 'tantaluslaw19.ManifestReads'. -/
def manifestReadsUptoCard : Claim7 := { stood := { row := manifestReadsUptoRow, standIns := [], harness := (true, "91dc157a066f1ac2decd2bd84459491dfc73f47c5958eac893a5b418e9dd1931"), looks := false }, kinds := [], alts := [], laidByText := true, laidKinds := [.data, .data], laidTests := true, laidLooks := .later }
def ManifestReadsUptoCardSaid : Prop := Claim7.holds Tryz.pinned (.plain (OpenSpec.upto manifestReadsSpec)) manifestReadsUptoCard

/-- THE SECOND FORM's CARD OF 'tantaluslaw19.ManifestLays'. -/
def manifestLaysUptoCard : Claim7 := { stood := { row := manifestLaysUptoRow, standIns := [], harness := (true, "91dc157a066f1ac2decd2bd84459491dfc73f47c5958eac893a5b418e9dd1931"), looks := false }, kinds := [], alts := [], laidByText := true, laidKinds := [.data, .data], laidTests := true, laidLooks := .later }
def ManifestLaysUptoCardSaid : Prop := Claim7.holds Tryz.pinned (.plain (OpenSpec.upto manifestLaysSpec)) manifestLaysUptoCard
end Rows
end Go.Proofs.YtdeobooblmjlfaaGreatDoor
