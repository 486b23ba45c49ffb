/-
  No cell of these rows narrows 'for every input' (looked for: loops, veiled, ifaces, maps, wideKeys, modest, calm, conditions, laid).
  DERIVED. THE GIVEN ROWS OF THIS SEAT. 7 by the template 'for every input the law returns true; each argument reads behind the call as it read before'; 0 by the template 'total and deterministic' (their statements: YtnhdaaggkdegpaaTotals.lean).
  GIVEN WITH THE SEED: the statements are not yours to turn. If you find one false, say at which input.
  Laid BY PROGRAM, IN A SANDBOX (cutbox-rows.mjs): the forced cells as the released guide's own fill.sh prints them over the translation c1704b7ce1ef1c9b… (all of the seat's roots in one cut). By AI agents, Wed Nov 11 2026. No macro, syntax, notation, axiom, sorry.
-/
import Derived.Test.YtnhdaaggkdegpaaChecked
import GoSem.Claim
import GoSem.ClaimJoined
import GoSem.ClaimMapViews
import Derived.JoinedTies
import Derived.KernelRfl
namespace Go.Proofs.Ytnhdaaggkdegpaa
/- THE CELL 'sum', in the pinned program and in every row, IS THE sha256 OF THE DUMP (.gsa) THAT YtnhdaaggkdegpaaProg.lean LOADS. Nothing in Lean hashes anything: it is a label: what it is worth is what the hold of that sum in a sandbox is worth. -/
noncomputable def Try.pinned : Pinned := { name := "ytnhdaaggkdegpaa", sum := "c1704b7ce1ef1c9b5d6f58d9cb8d2e6c1b93474f338607542eac611d1261272a", checked := Try.checked }
namespace Rows
def none {H : Type} : Left H := { results := [], args := [] }

/-- 'tantaluslaw18.VersionRights': WHATEVER THE INPUT: true; the input reads as it did. -/
def versionRightsSpec : ChangeSpec := { name := "versionRights", fn := fun _ => fun
  | [d] => { results := [.lit (.bool true)], args := [d] }
  | _ => none }
def versionRightsRow : OpenClaim := { program := "ytnhdaaggkdegpaa", sum := "c1704b7ce1ef1c9b5d6f58d9cb8d2e6c1b93474f338607542eac611d1261272a", func := "tantalus/tantaluslaw18.VersionRights", spec := "versionRights", unfollowed := true, recurses := true, apart := false }
def VersionRightsSaid : Prop := versionRightsRow.holds Try.pinned (OpenSpec.ofChange versionRightsSpec)

/-- ITS FALSE NEIGHBOUR: 'it returns false'. Refute it at one input. -/
def versionRightsWrong : ChangeSpec := { name := "versionRights", fn := fun _ => fun
  | [d] => { results := [.lit (.bool false)], args := [d] }
  | _ => none }
def VersionRightsWrongFalsely : Prop := versionRightsRow.holds Try.pinned (OpenSpec.ofChange versionRightsWrong)

/-- 'tantaluslaw18.VersionEdits': WHATEVER THE INPUT: true; the input reads as it did. -/
def versionEditsSpec : ChangeSpec := { name := "versionEdits", fn := fun _ => fun
  | [d1, d2] => { results := [.lit (.bool true)], args := [d1, d2] }
  | _ => none }
def versionEditsRow : OpenClaim := { program := "ytnhdaaggkdegpaa", sum := "c1704b7ce1ef1c9b5d6f58d9cb8d2e6c1b93474f338607542eac611d1261272a", func := "tantalus/tantaluslaw18.VersionEdits", spec := "versionEdits", unfollowed := true, recurses := true, apart := false }
def VersionEditsSaid : Prop := versionEditsRow.holds Try.pinned (OpenSpec.ofChange versionEditsSpec)

/-- ITS FALSE NEIGHBOUR: 'it returns false'. Refute it at one input. -/
def versionEditsWrong : ChangeSpec := { name := "versionEdits", fn := fun _ => fun
  | [d1, d2] => { results := [.lit (.bool false)], args := [d1, d2] }
  | _ => none }
def VersionEditsWrongFalsely : Prop := versionEditsRow.holds Try.pinned (OpenSpec.ofChange versionEditsWrong)

/-- 'tantaluslaw18.VersionApplies': WHATEVER THE INPUT: true; the input reads as it did. -/
def versionAppliesSpec : ChangeSpec := { name := "versionApplies", fn := fun _ => fun
  | [d1, d2] => { results := [.lit (.bool true)], args := [d1, d2] }
  | _ => none }
def versionAppliesRow : OpenClaim := { program := "ytnhdaaggkdegpaa", sum := "c1704b7ce1ef1c9b5d6f58d9cb8d2e6c1b93474f338607542eac611d1261272a", func := "tantalus/tantaluslaw18.VersionApplies", spec := "versionApplies", unfollowed := true, recurses := true, apart := false }
def VersionAppliesSaid : Prop := versionAppliesRow.holds Try.pinned (OpenSpec.ofChange versionAppliesSpec)

/-- ITS FALSE NEIGHBOUR: 'it returns false'. Refute it at one input. -/
def versionAppliesWrong : ChangeSpec := { name := "versionApplies", fn := fun _ => fun
  | [d1, d2] => { results := [.lit (.bool false)], args := [d1, d2] }
  | _ => none }
def VersionAppliesWrongFalsely : Prop := versionAppliesRow.holds Try.pinned (OpenSpec.ofChange versionAppliesWrong)

/-- 'tantaluslaw18.VersionBack': WHATEVER THE INPUT: true; the input reads as it did. -/
def versionBackSpec : ChangeSpec := { name := "versionBack", fn := fun _ => fun
  | [d1, d2] => { results := [.lit (.bool true)], args := [d1, d2] }
  | _ => none }
def versionBackRow : OpenClaim := { program := "ytnhdaaggkdegpaa", sum := "c1704b7ce1ef1c9b5d6f58d9cb8d2e6c1b93474f338607542eac611d1261272a", func := "tantalus/tantaluslaw18.VersionBack", spec := "versionBack", unfollowed := true, recurses := true, apart := false }
def VersionBackSaid : Prop := versionBackRow.holds Try.pinned (OpenSpec.ofChange versionBackSpec)

/-- ITS FALSE NEIGHBOUR: 'it returns false'. Refute it at one input. -/
def versionBackWrong : ChangeSpec := { name := "versionBack", fn := fun _ => fun
  | [d1, d2] => { results := [.lit (.bool false)], args := [d1, d2] }
  | _ => none }
def VersionBackWrongFalsely : Prop := versionBackRow.holds Try.pinned (OpenSpec.ofChange versionBackWrong)

/-- 'tantaluslaw18.VersionKeeps': WHATEVER THE INPUT: true; the input reads as it did. -/
def versionKeepsSpec : ChangeSpec := { name := "versionKeeps", fn := fun _ => fun
  | [d1, d2] => { results := [.lit (.bool true)], args := [d1, d2] }
  | _ => none }
def versionKeepsRow : OpenClaim := { program := "ytnhdaaggkdegpaa", sum := "c1704b7ce1ef1c9b5d6f58d9cb8d2e6c1b93474f338607542eac611d1261272a", func := "tantalus/tantaluslaw18.VersionKeeps", spec := "versionKeeps", unfollowed := true, recurses := true, apart := false }
def VersionKeepsSaid : Prop := versionKeepsRow.holds Try.pinned (OpenSpec.ofChange versionKeepsSpec)

/-- ITS FALSE NEIGHBOUR: 'it returns false'. Refute it at one input. -/
def versionKeepsWrong : ChangeSpec := { name := "versionKeeps", fn := fun _ => fun
  | [d1, d2] => { results := [.lit (.bool false)], args := [d1, d2] }
  | _ => none }
def VersionKeepsWrongFalsely : Prop := versionKeepsRow.holds Try.pinned (OpenSpec.ofChange versionKeepsWrong)

/-- 'tantaluslaw18.VersionLooks': WHATEVER THE INPUT: true; the input reads as it did. -/
def versionLooksSpec : ChangeSpec := { name := "versionLooks", fn := fun _ => fun
  | [d1, d2, d3] => { results := [.lit (.bool true)], args := [d1, d2, d3] }
  | _ => none }
def versionLooksRow : OpenClaim := { program := "ytnhdaaggkdegpaa", sum := "c1704b7ce1ef1c9b5d6f58d9cb8d2e6c1b93474f338607542eac611d1261272a", func := "tantalus/tantaluslaw18.VersionLooks", spec := "versionLooks", unfollowed := true, recurses := true, apart := false }
def VersionLooksSaid : Prop := versionLooksRow.holds Try.pinned (OpenSpec.ofChange versionLooksSpec)

/-- ITS FALSE NEIGHBOUR: 'it returns false'. Refute it at one input. -/
def versionLooksWrong : ChangeSpec := { name := "versionLooks", fn := fun _ => fun
  | [d1, d2, d3] => { results := [.lit (.bool false)], args := [d1, d2, d3] }
  | _ => none }
def VersionLooksWrongFalsely : Prop := versionLooksRow.holds Try.pinned (OpenSpec.ofChange versionLooksWrong)

/-- 'tantaluslaw18.VersionMay': WHATEVER THE INPUT: true; the input reads as it did. -/
def versionMaySpec : ChangeSpec := { name := "versionMay", fn := fun _ => fun
  | [d1, d2] => { results := [.lit (.bool true)], args := [d1, d2] }
  | _ => none }
def versionMayRow : OpenClaim := { program := "ytnhdaaggkdegpaa", sum := "c1704b7ce1ef1c9b5d6f58d9cb8d2e6c1b93474f338607542eac611d1261272a", func := "tantalus/tantaluslaw18.VersionMay", spec := "versionMay", unfollowed := true, recurses := true, apart := false }
def VersionMaySaid : Prop := versionMayRow.holds Try.pinned (OpenSpec.ofChange versionMaySpec)

/-- ITS FALSE NEIGHBOUR: 'it returns false'. Refute it at one input. -/
def versionMayWrong : ChangeSpec := { name := "versionMay", fn := fun _ => fun
  | [d1, d2] => { results := [.lit (.bool false)], args := [d1, d2] }
  | _ => none }
def VersionMayWrongFalsely : Prop := versionMayRow.holds Try.pinned (OpenSpec.ofChange versionMayWrong)

/- THE SECOND FORM. 'bulk': how many values and letters a reading holds, each counted each time it is reached (what is shared counts as often as it is met; a slice's spare places count too). A statement '..UptoSaid' is the law's where the arguments, and the package variables that the reading takes, are together of bulk at most 1048576: NARROWER than '..Said'. Prove '..Said' where nothing that the law and all that it calls make is longer than what came in: it says more and counts as full. Else prove '..UptoSaid'. A law counts once. -/
mutual
def uptoBulk {H : Type} : DataW H → Nat
  | .lit (.string bytes) => bytes.length + 1
  | .lit _ => 1
  | .nil => 1
  | .ptr d => uptoBulk d + 1
  | .slice elems spare => uptoBulkAll elems + uptoBulkAll spare + 1
  | .agg parts => uptoBulkAll parts + 1
  | .iface _ d => uptoBulk d + 1
  | .map entries => uptoBulkEntries entries + 1
  | .held _ => 1
def uptoBulkAll {H : Type} : List (DataW H) → Nat
  | [] => 0
  | d :: r => uptoBulk d + uptoBulkAll r
def uptoBulkEntries {H : Type} : List (Lit × DataW H) → Nat
  | [] => 0
  | x :: r => uptoBulkEntry x + uptoBulkEntries r
def uptoBulkEntry {H : Type} : Lit × DataW H → Nat
  | (.string bytes, d) => bytes.length + uptoBulk d + 1
  | (_, d) => uptoBulk d + 1
 end
def uptoSmall : (H : Type) → List (DataW H) → Bool := fun _ ds => decide (uptoBulkAll ds ≤ 1048576)
def OpenSpec.upto (s : _root_.Go.ChangeSpec) : _root_.Go.OpenSpec := { _root_.Go.OpenSpec.ofChange s with cond := some uptoSmall }

/-- 'tantaluslaw18.VersionRights', WHERE WHAT IT READS IS OF BULK AT MOST 1048576: true; the input reads as it did. -/
def versionRightsUptoRow : OpenClaim := { program := "ytnhdaaggkdegpaa", sum := "c1704b7ce1ef1c9b5d6f58d9cb8d2e6c1b93474f338607542eac611d1261272a", func := "tantalus/tantaluslaw18.VersionRights", spec := "versionRights", unfollowed := true, recurses := true, apart := false, narrowed := true }
def VersionRightsUptoSaid : Prop := versionRightsUptoRow.holds Try.pinned (OpenSpec.upto versionRightsSpec)

/-- 'tantaluslaw18.VersionEdits', WHERE WHAT IT READS IS OF BULK AT MOST 1048576: true; the input reads as it did. -/
def versionEditsUptoRow : OpenClaim := { program := "ytnhdaaggkdegpaa", sum := "c1704b7ce1ef1c9b5d6f58d9cb8d2e6c1b93474f338607542eac611d1261272a", func := "tantalus/tantaluslaw18.VersionEdits", spec := "versionEdits", unfollowed := true, recurses := true, apart := false, narrowed := true }
def VersionEditsUptoSaid : Prop := versionEditsUptoRow.holds Try.pinned (OpenSpec.upto versionEditsSpec)

/-- 'tantaluslaw18.VersionApplies', WHERE WHAT IT READS IS OF BULK AT MOST 1048576: true; the input reads as it did. -/
def versionAppliesUptoRow : OpenClaim := { program := "ytnhdaaggkdegpaa", sum := "c1704b7ce1ef1c9b5d6f58d9cb8d2e6c1b93474f338607542eac611d1261272a", func := "tantalus/tantaluslaw18.VersionApplies", spec := "versionApplies", unfollowed := true, recurses := true, apart := false, narrowed := true }
def VersionAppliesUptoSaid : Prop := versionAppliesUptoRow.holds Try.pinned (OpenSpec.upto versionAppliesSpec)

/-- 'tantaluslaw18.VersionBack', WHERE WHAT IT READS IS OF BULK AT MOST 1048576: true; the input reads as it did. -/
def versionBackUptoRow : OpenClaim := { program := "ytnhdaaggkdegpaa", sum := "c1704b7ce1ef1c9b5d6f58d9cb8d2e6c1b93474f338607542eac611d1261272a", func := "tantalus/tantaluslaw18.VersionBack", spec := "versionBack", unfollowed := true, recurses := true, apart := false, narrowed := true }
def VersionBackUptoSaid : Prop := versionBackUptoRow.holds Try.pinned (OpenSpec.upto versionBackSpec)

/-- 'tantaluslaw18.VersionKeeps', WHERE WHAT IT READS IS OF BULK AT MOST 1048576: true; the input reads as it did. -/
def versionKeepsUptoRow : OpenClaim := { program := "ytnhdaaggkdegpaa", sum := "c1704b7ce1ef1c9b5d6f58d9cb8d2e6c1b93474f338607542eac611d1261272a", func := "tantalus/tantaluslaw18.VersionKeeps", spec := "versionKeeps", unfollowed := true, recurses := true, apart := false, narrowed := true }
def VersionKeepsUptoSaid : Prop := versionKeepsUptoRow.holds Try.pinned (OpenSpec.upto versionKeepsSpec)

/-- 'tantaluslaw18.VersionLooks', WHERE WHAT IT READS IS OF BULK AT MOST 1048576: true; the input reads as it did. -/
def versionLooksUptoRow : OpenClaim := { program := "ytnhdaaggkdegpaa", sum := "c1704b7ce1ef1c9b5d6f58d9cb8d2e6c1b93474f338607542eac611d1261272a", func := "tantalus/tantaluslaw18.VersionLooks", spec := "versionLooks", unfollowed := true, recurses := true, apart := false, narrowed := true }
def VersionLooksUptoSaid : Prop := versionLooksUptoRow.holds Try.pinned (OpenSpec.upto versionLooksSpec)

/-- 'tantaluslaw18.VersionMay', WHERE WHAT IT READS IS OF BULK AT MOST 1048576: true; the input reads as it did. -/
def versionMayUptoRow : OpenClaim := { program := "ytnhdaaggkdegpaa", sum := "c1704b7ce1ef1c9b5d6f58d9cb8d2e6c1b93474f338607542eac611d1261272a", func := "tantalus/tantaluslaw18.VersionMay", spec := "versionMay", unfollowed := true, recurses := true, apart := false, narrowed := true }
def VersionMayUptoSaid : Prop := versionMayUptoRow.holds Try.pinned (OpenSpec.upto versionMaySpec)

end Rows
end Go.Proofs.Ytnhdaaggkdegpaa
