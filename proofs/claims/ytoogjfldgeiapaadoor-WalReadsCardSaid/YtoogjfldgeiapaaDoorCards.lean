/-
  DERIVED. GIVEN WITH THE SEED: THE CARDS: each row of YtoogjfldgeiapaaDoorRows.lean that lists a variable, with what it lists TIED to the program's text (the seventh form; the later family's looks); each row that meets fmt, with fmt's text TOLD by the authors' own Lean function (tested against real Go, not proved from fmt's source: count such statements apart). THE CARD IS WHAT COUNTS. Prove the row's statement (the work); the ties are given (YtoogjfldgeiapaaDoorTie.lean); close each card by the builder's one call (the guide's Derived/Test/ToyasCard.lean, 'card_holds'). Laid BY PROGRAM, IN A SANDBOX (cutbox-door.mjs). By AI agents, Wed Nov 11 2026. No macro, syntax, notation, axiom, sorry.
-/
import Derived.Test.YtoogjfldgeiapaaDoorRows
import GoSem.ClaimSeven
namespace Go.Proofs.YtoogjfldgeiapaaDoor
namespace Rows

/-- THE TIED CARD OF 'tantaluslaw06.SealSeals'. -/
def sealSealsCard : Claim7 := { stood := { row := sealSealsRow, standIns := [], harness := (true, "7cdfc7d92c5690d2e5ae0889e6cc85deb27ae277b70807eb433a751cad7c0798"), looks := false }, kinds := [], alts := [], laidByText := true, laidKinds := [.data, .data], laidTests := true, laidLooks := .later }
def SealSealsCardSaid : Prop := Claim7.holds Tryd.pinned (.plain (OpenSpec.ofChange sealSealsSpec)) sealSealsCard

/-- THE TIED CARD OF 'tantaluslaw06.SealOpens'. -/
def sealOpensCard : Claim7 := { stood := { row := sealOpensRow, standIns := [], harness := (true, "7cdfc7d92c5690d2e5ae0889e6cc85deb27ae277b70807eb433a751cad7c0798"), looks := false }, kinds := [], alts := [], laidByText := true, laidKinds := [.data, .data], laidTests := true, laidLooks := .later }
def SealOpensCardSaid : Prop := Claim7.holds Tryd.pinned (.plain (OpenSpec.ofChange sealOpensSpec)) sealOpensCard

/-- THE TIED CARD OF 'tantaluslaw06.SealBack'. -/
def sealBackCard : Claim7 := { stood := { row := sealBackRow, standIns := [], harness := (true, "7cdfc7d92c5690d2e5ae0889e6cc85deb27ae277b70807eb433a751cad7c0798"), looks := false }, kinds := [], alts := [], laidByText := true, laidKinds := [.data], laidTests := true, laidLooks := .later }
def SealBackCardSaid : Prop := Claim7.holds Tryd.pinned (.plain (OpenSpec.ofChange sealBackSpec)) sealBackCard

/-- THE TIED CARD OF 'tantaluslaw06.SealOnce'. -/
def sealOnceCard : Claim7 := { stood := { row := sealOnceRow, standIns := [], harness := (true, "7cdfc7d92c5690d2e5ae0889e6cc85deb27ae277b70807eb433a751cad7c0798"), looks := false }, kinds := [], alts := [], laidByText := true, laidKinds := [.data], laidTests := true, laidLooks := .later }
def SealOnceCardSaid : Prop := Claim7.holds Tryd.pinned (.plain (OpenSpec.ofChange sealOnceSpec)) sealOnceCard

/-- THE TIED CARD OF 'tantaluslaw06.SealOther'. -/
def sealOtherCard : Claim7 := { stood := { row := sealOtherRow, standIns := [], harness := (true, "7cdfc7d92c5690d2e5ae0889e6cc85deb27ae277b70807eb433a751cad7c0798"), looks := false }, kinds := [], alts := [], laidByText := true, laidKinds := [.data], laidTests := true, laidLooks := .later }
def SealOtherCardSaid : Prop := Claim7.holds Tryd.pinned (.plain (OpenSpec.ofChange sealOtherSpec)) sealOtherCard

/-- THE TIED CARD OF 'tantaluslaw06.SealTurned'. -/
def sealTurnedCard : Claim7 := { stood := { row := sealTurnedRow, standIns := [], harness := (true, "7cdfc7d92c5690d2e5ae0889e6cc85deb27ae277b70807eb433a751cad7c0798"), looks := false }, kinds := [], alts := [], laidByText := true, laidKinds := [.data], laidTests := true, laidLooks := .later }
def SealTurnedCardSaid : Prop := Claim7.holds Tryd.pinned (.plain (OpenSpec.ofChange sealTurnedSpec)) sealTurnedCard

/-- THE TIED CARD OF 'tantaluslaw16.WalLays'. -/
def walLaysCard : Claim7 := { stood := { row := walLaysRow, standIns := [], harness := (true, "7cdfc7d92c5690d2e5ae0889e6cc85deb27ae277b70807eb433a751cad7c0798"), looks := false }, kinds := [], alts := [], laidByText := true, laidKinds := [.data, .data], laidTests := true, laidLooks := .later }
def WalLaysCardSaid : Prop := Claim7.holds Tryd.pinned (.plain (OpenSpec.ofChange walLaysSpec)) walLaysCard

/-- THE TIED CARD OF 'tantaluslaw16.WalReads'. -/
def walReadsCard : Claim7 := { stood := { row := walReadsRow, standIns := [], harness := (true, "7cdfc7d92c5690d2e5ae0889e6cc85deb27ae277b70807eb433a751cad7c0798"), looks := false }, kinds := [], alts := [], laidByText := true, laidKinds := [.data, .data], laidTests := true, laidLooks := .later }
def WalReadsCardSaid : Prop := Claim7.holds Tryd.pinned (.plain (OpenSpec.ofChange walReadsSpec)) walReadsCard

/-- THE TIED CARD OF 'tantaluslaw16.WalBack'. -/
def walBackCard : Claim7 := { stood := { row := walBackRow, standIns := [], harness := (true, "7cdfc7d92c5690d2e5ae0889e6cc85deb27ae277b70807eb433a751cad7c0798"), looks := false }, kinds := [], alts := [], laidByText := true, laidKinds := [.data], laidTests := true, laidLooks := .later }
def WalBackCardSaid : Prop := Claim7.holds Tryd.pinned (.plain (OpenSpec.ofChange walBackSpec)) walBackCard

/-- THE TIED CARD OF 'tantaluslaw16.WalCut'. -/
def walCutCard : Claim7 := { stood := { row := walCutRow, standIns := [], harness := (true, "7cdfc7d92c5690d2e5ae0889e6cc85deb27ae277b70807eb433a751cad7c0798"), looks := false }, kinds := [], alts := [], laidByText := true, laidKinds := [.data], laidTests := true, laidLooks := .later }
def WalCutCardSaid : Prop := Claim7.holds Tryd.pinned (.plain (OpenSpec.ofChange walCutSpec)) walCutCard

/-- THE TIED CARD OF 'tantaluslaw16.WalTurned'. -/
def walTurnedCard : Claim7 := { stood := { row := walTurnedRow, standIns := [], harness := (true, "7cdfc7d92c5690d2e5ae0889e6cc85deb27ae277b70807eb433a751cad7c0798"), looks := false }, kinds := [], alts := [], laidByText := true, laidKinds := [.data], laidTests := true, laidLooks := .later }
def WalTurnedCardSaid : Prop := Claim7.holds Tryd.pinned (.plain (OpenSpec.ofChange walTurnedSpec)) walTurnedCard

/-- THE TIED CARD OF 'tantaluslaw16.WalMore'. -/
def walMoreCard : Claim7 := { stood := { row := walMoreRow, standIns := [], harness := (true, "7cdfc7d92c5690d2e5ae0889e6cc85deb27ae277b70807eb433a751cad7c0798"), looks := false }, kinds := [], alts := [], laidByText := true, laidKinds := [.data], laidTests := true, laidLooks := .later }
def WalMoreCardSaid : Prop := Claim7.holds Tryd.pinned (.plain (OpenSpec.ofChange walMoreSpec)) walMoreCard

/-- THE SECOND FORM's CARD OF 'tantaluslaw06.SealSeals'. -/
def sealSealsUptoCard : Claim7 := { stood := { row := sealSealsUptoRow, standIns := [], harness := (true, "7cdfc7d92c5690d2e5ae0889e6cc85deb27ae277b70807eb433a751cad7c0798"), looks := false }, kinds := [], alts := [], laidByText := true, laidKinds := [.data, .data], laidTests := true, laidLooks := .later }
def SealSealsUptoCardSaid : Prop := Claim7.holds Tryd.pinned (.plain (OpenSpec.upto sealSealsSpec)) sealSealsUptoCard

/-- THE SECOND FORM's CARD OF 'tantaluslaw06.SealOpens'. -/
def sealOpensUptoCard : Claim7 := { stood := { row := sealOpensUptoRow, standIns := [], harness := (true, "7cdfc7d92c5690d2e5ae0889e6cc85deb27ae277b70807eb433a751cad7c0798"), looks := false }, kinds := [], alts := [], laidByText := true, laidKinds := [.data, .data], laidTests := true, laidLooks := .later }
def SealOpensUptoCardSaid : Prop := Claim7.holds Tryd.pinned (.plain (OpenSpec.upto sealOpensSpec)) sealOpensUptoCard

/-- THE SECOND FORM's CARD OF 'tantaluslaw06.SealBack'. -/
def sealBackUptoCard : Claim7 := { stood := { row := sealBackUptoRow, standIns := [], harness := (true, "7cdfc7d92c5690d2e5ae0889e6cc85deb27ae277b70807eb433a751cad7c0798"), looks := false }, kinds := [], alts := [], laidByText := true, laidKinds := [.data], laidTests := true, laidLooks := .later }
def SealBackUptoCardSaid : Prop := Claim7.holds Tryd.pinned (.plain (OpenSpec.upto sealBackSpec)) sealBackUptoCard

/-- THE SECOND FORM's CARD OF 'tantaluslaw06.SealOnce'. -/
def sealOnceUptoCard : Claim7 := { stood := { row := sealOnceUptoRow, standIns := [], harness := (true, "7cdfc7d92c5690d2e5ae0889e6cc85deb27ae277b70807eb433a751cad7c0798"), looks := false }, kinds := [], alts := [], laidByText := true, laidKinds := [.data], laidTests := true, laidLooks := .later }
def SealOnceUptoCardSaid : Prop := Claim7.holds Tryd.pinned (.plain (OpenSpec.upto sealOnceSpec)) sealOnceUptoCard

/-- THE SECOND FORM's CARD OF 'tantaluslaw06.SealOther'. -/
def sealOtherUptoCard : Claim7 := { stood := { row := sealOtherUptoRow, standIns := [], harness := (true, "7cdfc7d92c5690d2e5ae0889e6cc85deb27ae277b70807eb433a751cad7c0798"), looks := false }, kinds := [], alts := [], laidByText := true, laidKinds := [.data], laidTests := true, laidLooks := .later }
def SealOtherUptoCardSaid : Prop := Claim7.holds Tryd.pinned (.plain (OpenSpec.upto sealOtherSpec)) sealOtherUptoCard

/-- THE SECOND FORM's CARD OF 'tantaluslaw06.SealTurned'. -/
def sealTurnedUptoCard : Claim7 := { stood := { row := sealTurnedUptoRow, standIns := [], harness := (true, "7cdfc7d92c5690d2e5ae0889e6cc85deb27ae277b70807eb433a751cad7c0798"), looks := false }, kinds := [], alts := [], laidByText := true, laidKinds := [.data], laidTests := true, laidLooks := .later }
def SealTurnedUptoCardSaid : Prop := Claim7.holds Tryd.pinned (.plain (OpenSpec.upto sealTurnedSpec)) sealTurnedUptoCard

/-- THE SECOND FORM's CARD OF 'tantaluslaw16.WalLays'. -/
def walLaysUptoCard : Claim7 := { stood := { row := walLaysUptoRow, standIns := [], harness := (true, "7cdfc7d92c5690d2e5ae0889e6cc85deb27ae277b70807eb433a751cad7c0798"), looks := false }, kinds := [], alts := [], laidByText := true, laidKinds := [.data, .data], laidTests := true, laidLooks := .later }
def WalLaysUptoCardSaid : Prop := Claim7.holds Tryd.pinned (.plain (OpenSpec.upto walLaysSpec)) walLaysUptoCard

/-- THE SECOND FORM's CARD OF 'tantaluslaw16.WalReads'. -/
def walReadsUptoCard : Claim7 := { stood := { row := walReadsUptoRow, standIns := [], harness := (true, "7cdfc7d92c5690d2e5ae0889e6cc85deb27ae277b70807eb433a751cad7c0798"), looks := false }, kinds := [], alts := [], laidByText := true, laidKinds := [.data, .data], laidTests := true, laidLooks := .later }
def WalReadsUptoCardSaid : Prop := Claim7.holds Tryd.pinned (.plain (OpenSpec.upto walReadsSpec)) walReadsUptoCard

/-- THE SECOND FORM's CARD OF 'tantaluslaw16.WalBack'. -/
def walBackUptoCard : Claim7 := { stood := { row := walBackUptoRow, standIns := [], harness := (true, "7cdfc7d92c5690d2e5ae0889e6cc85deb27ae277b70807eb433a751cad7c0798"), looks := false }, kinds := [], alts := [], laidByText := true, laidKinds := [.data], laidTests := true, laidLooks := .later }
def WalBackUptoCardSaid : Prop := Claim7.holds Tryd.pinned (.plain (OpenSpec.upto walBackSpec)) walBackUptoCard

/-- THE SECOND FORM's CARD OF 'tantaluslaw16.WalCut'. -/
def walCutUptoCard : Claim7 := { stood := { row := walCutUptoRow, standIns := [], harness := (true, "7cdfc7d92c5690d2e5ae0889e6cc85deb27ae277b70807eb433a751cad7c0798"), looks := false }, kinds := [], alts := [], laidByText := true, laidKinds := [.data], laidTests := true, laidLooks := .later }
def WalCutUptoCardSaid : Prop := Claim7.holds Tryd.pinned (.plain (OpenSpec.upto walCutSpec)) walCutUptoCard

/-- THE SECOND FORM's CARD OF 'tantaluslaw16.WalTurned'. -/
def walTurnedUptoCard : Claim7 := { stood := { row := walTurnedUptoRow, standIns := [], harness := (true, "7cdfc7d92c5690d2e5ae0889e6cc85deb27ae277b70807eb433a751cad7c0798"), looks := false }, kinds := [], alts := [], laidByText := true, laidKinds := [.data], laidTests := true, laidLooks := .later }
def WalTurnedUptoCardSaid : Prop := Claim7.holds Tryd.pinned (.plain (OpenSpec.upto walTurnedSpec)) walTurnedUptoCard

/-- THE SECOND FORM's CARD OF 'tantaluslaw16.WalMore'. -/
def walMoreUptoCard : Claim7 := { stood := { row := walMoreUptoRow, standIns := [], harness := (true, "7cdfc7d92c5690d2e5ae0889e6cc85deb27ae277b70807eb433a751cad7c0798"), looks := false }, kinds := [], alts := [], laidByText := true, laidKinds := [.data], laidTests := true, laidLooks := .later }
def WalMoreUptoCardSaid : Prop := Claim7.holds Tryd.pinned (.plain (OpenSpec.upto walMoreSpec)) walMoreUptoCard
end Rows
end Go.Proofs.YtoogjfldgeiapaaDoor
