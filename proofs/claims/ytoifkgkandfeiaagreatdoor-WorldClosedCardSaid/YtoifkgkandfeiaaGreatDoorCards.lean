/-
  DERIVED. GIVEN WITH THE SEED: THE CARDS: each row of YtoifkgkandfeiaaGreatDoorRows.lean that lists a variable, with what it lists TIED to the program's text (the seventh form; the later family's looks); each row that meets fmt, with fmt's text TOLD by the authors' own Lean function (tested against real Go, not proved from fmt's source: count such statements apart). THE CARD IS WHAT COUNTS. Prove the row's statement (the work); the ties are given (YtoifkgkandfeiaaGreatDoorTie.lean); close each card by the builder's one call (the guide's Derived/Test/ToyasCard.lean, 'card_holds'). Laid BY PROGRAM, IN A SANDBOX (cutbox-door.mjs). By AI agents, Wed Nov 11 2026. No macro, syntax, notation, axiom, sorry.
-/
import Derived.Test.YtoifkgkandfeiaaGreatDoorRows
import GoSem.ClaimSeven
namespace Go.Proofs.YtoifkgkandfeiaaGreatDoor
namespace Rows

/-- THE TIED CARD OF 'tantaluslaw25.WorldClosed'. -/
def worldClosedCard : Claim7 := { stood := { row := worldClosedRow, standIns := [], harness := (true, "db3271caf1540a1cdabba1f11fc2f8c8820269131c9921f06d580dacabe8e4ee"), looks := true }, kinds := [], alts := [], laidByText := true, laidKinds := [.data], laidTests := true, laidLooks := .later }
def WorldClosedCardSaid : Prop := Claim7.holds Tryz.pinned (.plain (OpenSpec.ofChange worldClosedSpec)) worldClosedCard

/-- THE TIED CARD OF 'tantaluslaw26.DeskParses'. -/
def deskParsesCard : Claim7 := { stood := { row := deskParsesRow, standIns := [], harness := (true, "db3271caf1540a1cdabba1f11fc2f8c8820269131c9921f06d580dacabe8e4ee"), looks := true }, kinds := [], alts := [], laidByText := true, laidKinds := [.data, .data, .data, .data, .data, .pinned], laidTests := true, laidLooks := .later }
def DeskParsesCardSaid : Prop := Claim7.holds Tryz.pinned (.plain (OpenSpec.ofChange deskParsesSpec)) deskParsesCard

/-- THE TIED CARD OF 'tantaluslaw26.DeskTexts'. -/
def deskTextsCard : Claim7 := { stood := { row := deskTextsRow, standIns := [], harness := (true, "db3271caf1540a1cdabba1f11fc2f8c8820269131c9921f06d580dacabe8e4ee"), looks := true }, kinds := [], alts := [], laidByText := true, laidKinds := [.data, .data, .data, .data, .data, .pinned], laidTests := true, laidLooks := .later }
def DeskTextsCardSaid : Prop := Claim7.holds Tryz.pinned (.plain (OpenSpec.ofChange deskTextsSpec)) deskTextsCard

/-- THE TIED CARD OF 'tantaluslaw26.DeskNil'. -/
def deskNilCard : Claim7 := { stood := { row := deskNilRow, standIns := [], harness := (true, "db3271caf1540a1cdabba1f11fc2f8c8820269131c9921f06d580dacabe8e4ee"), looks := true }, kinds := [], alts := [], laidByText := true, laidKinds := [.data, .data, .data, .data, .data, .pinned], laidTests := true, laidLooks := .later }
def DeskNilCardSaid : Prop := Claim7.holds Tryz.pinned (.plain (OpenSpec.ofChange deskNilSpec)) deskNilCard

/-- THE SECOND FORM's CARD OF 'tantaluslaw25.WorldClosed'. -/
def worldClosedUptoCard : Claim7 := { stood := { row := worldClosedUptoRow, standIns := [], harness := (true, "db3271caf1540a1cdabba1f11fc2f8c8820269131c9921f06d580dacabe8e4ee"), looks := true }, kinds := [], alts := [], laidByText := true, laidKinds := [.data], laidTests := true, laidLooks := .later }
def WorldClosedUptoCardSaid : Prop := Claim7.holds Tryz.pinned (.plain (OpenSpec.upto worldClosedSpec)) worldClosedUptoCard

/-- THE SECOND FORM's CARD OF 'tantaluslaw26.DeskParses'. -/
def deskParsesUptoCard : Claim7 := { stood := { row := deskParsesUptoRow, standIns := [], harness := (true, "db3271caf1540a1cdabba1f11fc2f8c8820269131c9921f06d580dacabe8e4ee"), looks := true }, kinds := [], alts := [], laidByText := true, laidKinds := [.data, .data, .data, .data, .data, .pinned], laidTests := true, laidLooks := .later }
def DeskParsesUptoCardSaid : Prop := Claim7.holds Tryz.pinned (.plain (OpenSpec.upto deskParsesSpec)) deskParsesUptoCard

/-- THE SECOND FORM's CARD OF 'tantaluslaw26.DeskTexts'. -/
def deskTextsUptoCard : Claim7 := { stood := { row := deskTextsUptoRow, standIns := [], harness := (true, "db3271caf1540a1cdabba1f11fc2f8c8820269131c9921f06d580dacabe8e4ee"), looks := true }, kinds := [], alts := [], laidByText := true, laidKinds := [.data, .data, .data, .data, .data, .pinned], laidTests := true, laidLooks := .later }
def DeskTextsUptoCardSaid : Prop := Claim7.holds Tryz.pinned (.plain (OpenSpec.upto deskTextsSpec)) deskTextsUptoCard

/-- THE SECOND FORM's CARD OF 'tantaluslaw26.DeskNil'. -/
def deskNilUptoCard : Claim7 := { stood := { row := deskNilUptoRow, standIns := [], harness := (true, "db3271caf1540a1cdabba1f11fc2f8c8820269131c9921f06d580dacabe8e4ee"), looks := true }, kinds := [], alts := [], laidByText := true, laidKinds := [.data, .data, .data, .data, .data, .pinned], laidTests := true, laidLooks := .later }
def DeskNilUptoCardSaid : Prop := Claim7.holds Tryz.pinned (.plain (OpenSpec.upto deskNilSpec)) deskNilUptoCard
end Rows
end Go.Proofs.YtoifkgkandfeiaaGreatDoor
