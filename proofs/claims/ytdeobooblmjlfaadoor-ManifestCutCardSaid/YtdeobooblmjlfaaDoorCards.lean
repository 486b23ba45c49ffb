/-
  DERIVED. GIVEN WITH THE SEED: THE CARDS: each row of YtdeobooblmjlfaaDoorRows.lean that lists a variable, with what it lists TIED to the program's text (the seventh form; the later family's looks); each row that meets fmt, with fmt's text TOLD by the authors' own Lean function (tested against real Go, not proved from fmt's source: count such statements apart). THE CARD IS WHAT COUNTS. Prove the row's statement (the work); the ties are given (YtdeobooblmjlfaaDoorTie.lean); close each card by the builder's one call (the guide's Derived/Test/ToyasCard.lean, 'card_holds'). Laid BY PROGRAM, IN A SANDBOX (cutbox-door.mjs). By AI agents, Wed Nov 11 2026. No macro, syntax, notation, axiom, sorry.
-/
import Derived.Test.YtdeobooblmjlfaaDoorRows
import GoSem.ClaimSeven
namespace Go.Proofs.YtdeobooblmjlfaaDoor
namespace Rows

/-- THE TIED CARD OF 'tantaluslaw19.ManifestRoots'. -/
def manifestRootsCard : Claim7 := { stood := { row := manifestRootsRow, standIns := [], harness := (true, "381a9264a716caa449084f29d5535d5b0a6602e520e164673a4943eda4ef5325"), looks := false }, kinds := [], alts := [], laidByText := true, laidKinds := [.data, .data], laidTests := true, laidLooks := .later }
def ManifestRootsCardSaid : Prop := Claim7.holds Tryd.pinned (.plain (OpenSpec.ofChange manifestRootsSpec)) manifestRootsCard

/-- THE TIED CARD OF 'tantaluslaw19.ManifestBack'. -/
def manifestBackCard : Claim7 := { stood := { row := manifestBackRow, standIns := [], harness := (true, "381a9264a716caa449084f29d5535d5b0a6602e520e164673a4943eda4ef5325"), looks := false }, kinds := [], alts := [], laidByText := true, laidKinds := [.data], laidTests := true, laidLooks := .later }
def ManifestBackCardSaid : Prop := Claim7.holds Tryd.pinned (.plain (OpenSpec.ofChange manifestBackSpec)) manifestBackCard

/-- THE TIED CARD OF 'tantaluslaw19.ManifestCut'. -/
def manifestCutCard : Claim7 := { stood := { row := manifestCutRow, standIns := [], harness := (true, "381a9264a716caa449084f29d5535d5b0a6602e520e164673a4943eda4ef5325"), looks := false }, kinds := [], alts := [], laidByText := true, laidKinds := [.data], laidTests := true, laidLooks := .later }
def ManifestCutCardSaid : Prop := Claim7.holds Tryd.pinned (.plain (OpenSpec.ofChange manifestCutSpec)) manifestCutCard

/-- THE TIED CARD OF 'tantaluslaw19.ManifestMarks'. -/
def manifestMarksCard : Claim7 := { stood := { row := manifestMarksRow, standIns := [], harness := (true, "381a9264a716caa449084f29d5535d5b0a6602e520e164673a4943eda4ef5325"), looks := false }, kinds := [], alts := [], laidByText := true, laidKinds := [.data], laidTests := true, laidLooks := .later }
def ManifestMarksCardSaid : Prop := Claim7.holds Tryd.pinned (.plain (OpenSpec.ofChange manifestMarksSpec)) manifestMarksCard

/-- THE SECOND FORM's CARD OF 'tantaluslaw19.ManifestRoots'. -/
def manifestRootsUptoCard : Claim7 := { stood := { row := manifestRootsUptoRow, standIns := [], harness := (true, "381a9264a716caa449084f29d5535d5b0a6602e520e164673a4943eda4ef5325"), looks := false }, kinds := [], alts := [], laidByText := true, laidKinds := [.data, .data], laidTests := true, laidLooks := .later }
def ManifestRootsUptoCardSaid : Prop := Claim7.holds Tryd.pinned (.plain (OpenSpec.upto manifestRootsSpec)) manifestRootsUptoCard

/-- THE SECOND FORM's CARD OF 'tantaluslaw19.ManifestBack'. -/
def manifestBackUptoCard : Claim7 := { stood := { row := manifestBackUptoRow, standIns := [], harness := (true, "381a9264a716caa449084f29d5535d5b0a6602e520e164673a4943eda4ef5325"), looks := false }, kinds := [], alts := [], laidByText := true, laidKinds := [.data], laidTests := true, laidLooks := .later }
def ManifestBackUptoCardSaid : Prop := Claim7.holds Tryd.pinned (.plain (OpenSpec.upto manifestBackSpec)) manifestBackUptoCard

/-- THE SECOND FORM's CARD OF 'tantaluslaw19.ManifestCut'. -/
def manifestCutUptoCard : Claim7 := { stood := { row := manifestCutUptoRow, standIns := [], harness := (true, "381a9264a716caa449084f29d5535d5b0a6602e520e164673a4943eda4ef5325"), looks := false }, kinds := [], alts := [], laidByText := true, laidKinds := [.data], laidTests := true, laidLooks := .later }
def ManifestCutUptoCardSaid : Prop := Claim7.holds Tryd.pinned (.plain (OpenSpec.upto manifestCutSpec)) manifestCutUptoCard

/-- THE SECOND FORM's CARD OF 'tantaluslaw19.ManifestMarks'. -/
def manifestMarksUptoCard : Claim7 := { stood := { row := manifestMarksUptoRow, standIns := [], harness := (true, "381a9264a716caa449084f29d5535d5b0a6602e520e164673a4943eda4ef5325"), looks := false }, kinds := [], alts := [], laidByText := true, laidKinds := [.data], laidTests := true, laidLooks := .later }
def ManifestMarksUptoCardSaid : Prop := Claim7.holds Tryd.pinned (.plain (OpenSpec.upto manifestMarksSpec)) manifestMarksUptoCard
end Rows
end Go.Proofs.YtdeobooblmjlfaaDoor
