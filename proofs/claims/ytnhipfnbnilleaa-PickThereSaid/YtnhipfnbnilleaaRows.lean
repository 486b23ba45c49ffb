/-
  No cell of these rows narrows 'for every input' (looked for: loops, veiled, ifaces, maps, wideKeys, modest, calm, conditions, laid).
  DERIVED. THE GIVEN ROWS OF THIS SEAT. 5 by the template 'for every input the law returns true; each argument reads behind the call as it read before'; 0 by the template 'total and deterministic' (their statements: YtnhipfnbnilleaaTotals.lean).
  GIVEN WITH THE SEED: the statements are not yours to turn. If you find one false, say at which input.
  Laid BY PROGRAM, IN A SANDBOX (cutbox-rows.mjs): the forced cells as the released guide's own fill.sh prints them over the translation e4b65b5f809ebdc2… (all of the seat's roots in one cut). By AI agents, Wed Nov 11 2026. No macro, syntax, notation, axiom, sorry.
-/
import Derived.Test.YtnhipfnbnilleaaChecked
import GoSem.Claim
import GoSem.ClaimJoined
import GoSem.ClaimMapViews
import Derived.JoinedTies
import Derived.KernelRfl
namespace Go.Proofs.Ytnhipfnbnilleaa
/- THE CELL 'sum', in the pinned program and in every row, IS THE sha256 OF THE DUMP (.gsa) THAT YtnhipfnbnilleaaProg.lean LOADS. Nothing in Lean hashes anything: it is a label: what it is worth is what the hold of that sum in a sandbox is worth. -/
noncomputable def Try.pinned : Pinned := { name := "ytnhipfnbnilleaa", sum := "e4b65b5f809ebdc2062b2cffab44cafd7c8d8e78b5be77747a2a98155de96644", checked := Try.checked }
namespace Rows
def none {H : Type} : Left H := { results := [], args := [] }

/-- 'tantaluslaw21.PickLimits': WHATEVER THE INPUT: true; the input reads as it did. -/
def pickLimitsSpec : ChangeSpec := { name := "pickLimits", fn := fun _ => fun
  | [d1, d2] => { results := [.lit (.bool true)], args := [d1, d2] }
  | _ => none }
def pickLimitsRow : OpenClaim := { program := "ytnhipfnbnilleaa", sum := "e4b65b5f809ebdc2062b2cffab44cafd7c8d8e78b5be77747a2a98155de96644", func := "tantalus/tantaluslaw21.PickLimits", spec := "pickLimits", unfollowed := true, recurses := true, apart := false }
def PickLimitsSaid : Prop := pickLimitsRow.holds Try.pinned (OpenSpec.ofChange pickLimitsSpec)

/-- ITS FALSE NEIGHBOUR: 'it returns false'. Refute it at one input. -/
def pickLimitsWrong : ChangeSpec := { name := "pickLimits", fn := fun _ => fun
  | [d1, d2] => { results := [.lit (.bool false)], args := [d1, d2] }
  | _ => none }
def PickLimitsWrongFalsely : Prop := pickLimitsRow.holds Try.pinned (OpenSpec.ofChange pickLimitsWrong)

/-- 'tantaluslaw21.PickPicks': WHATEVER THE INPUT: true; the input reads as it did. -/
def pickPicksSpec : ChangeSpec := { name := "pickPicks", fn := fun _ => fun
  | [d1, d2, d3] => { results := [.lit (.bool true)], args := [d1, d2, d3] }
  | _ => none }
def pickPicksRow : OpenClaim := { program := "ytnhipfnbnilleaa", sum := "e4b65b5f809ebdc2062b2cffab44cafd7c8d8e78b5be77747a2a98155de96644", func := "tantalus/tantaluslaw21.PickPicks", spec := "pickPicks", unfollowed := true, recurses := true, apart := false }
def PickPicksSaid : Prop := pickPicksRow.holds Try.pinned (OpenSpec.ofChange pickPicksSpec)

/-- ITS FALSE NEIGHBOUR: 'it returns false'. Refute it at one input. -/
def pickPicksWrong : ChangeSpec := { name := "pickPicks", fn := fun _ => fun
  | [d1, d2, d3] => { results := [.lit (.bool false)], args := [d1, d2, d3] }
  | _ => none }
def PickPicksWrongFalsely : Prop := pickPicksRow.holds Try.pinned (OpenSpec.ofChange pickPicksWrong)

/-- 'tantaluslaw21.PickThere': WHATEVER THE INPUT: true; the input reads as it did. -/
def pickThereSpec : ChangeSpec := { name := "pickThere", fn := fun _ => fun
  | [d1, d2, d3] => { results := [.lit (.bool true)], args := [d1, d2, d3] }
  | _ => none }
def pickThereRow : OpenClaim := { program := "ytnhipfnbnilleaa", sum := "e4b65b5f809ebdc2062b2cffab44cafd7c8d8e78b5be77747a2a98155de96644", func := "tantalus/tantaluslaw21.PickThere", spec := "pickThere", unfollowed := true, recurses := true, apart := false }
def PickThereSaid : Prop := pickThereRow.holds Try.pinned (OpenSpec.ofChange pickThereSpec)

/-- ITS FALSE NEIGHBOUR: 'it returns false'. Refute it at one input. -/
def pickThereWrong : ChangeSpec := { name := "pickThere", fn := fun _ => fun
  | [d1, d2, d3] => { results := [.lit (.bool false)], args := [d1, d2, d3] }
  | _ => none }
def PickThereWrongFalsely : Prop := pickThereRow.holds Try.pinned (OpenSpec.ofChange pickThereWrong)

/-- 'tantaluslaw21.PickFulls': WHATEVER THE INPUT: true; the input reads as it did. -/
def pickFullsSpec : ChangeSpec := { name := "pickFulls", fn := fun _ => fun
  | [d1, d2, d3] => { results := [.lit (.bool true)], args := [d1, d2, d3] }
  | _ => none }
def pickFullsRow : OpenClaim := { program := "ytnhipfnbnilleaa", sum := "e4b65b5f809ebdc2062b2cffab44cafd7c8d8e78b5be77747a2a98155de96644", func := "tantalus/tantaluslaw21.PickFulls", spec := "pickFulls", unfollowed := true, recurses := true, apart := false }
def PickFullsSaid : Prop := pickFullsRow.holds Try.pinned (OpenSpec.ofChange pickFullsSpec)

/-- ITS FALSE NEIGHBOUR: 'it returns false'. Refute it at one input. -/
def pickFullsWrong : ChangeSpec := { name := "pickFulls", fn := fun _ => fun
  | [d1, d2, d3] => { results := [.lit (.bool false)], args := [d1, d2, d3] }
  | _ => none }
def PickFullsWrongFalsely : Prop := pickFullsRow.holds Try.pinned (OpenSpec.ofChange pickFullsWrong)

/-- 'tantaluslaw21.PickRests': WHATEVER THE INPUT: true; the input reads as it did. -/
def pickRestsSpec : ChangeSpec := { name := "pickRests", fn := fun _ => fun
  | [d1, d2, d3] => { results := [.lit (.bool true)], args := [d1, d2, d3] }
  | _ => none }
def pickRestsRow : OpenClaim := { program := "ytnhipfnbnilleaa", sum := "e4b65b5f809ebdc2062b2cffab44cafd7c8d8e78b5be77747a2a98155de96644", func := "tantalus/tantaluslaw21.PickRests", spec := "pickRests", unfollowed := true, recurses := true, apart := false }
def PickRestsSaid : Prop := pickRestsRow.holds Try.pinned (OpenSpec.ofChange pickRestsSpec)

/-- ITS FALSE NEIGHBOUR: 'it returns false'. Refute it at one input. -/
def pickRestsWrong : ChangeSpec := { name := "pickRests", fn := fun _ => fun
  | [d1, d2, d3] => { results := [.lit (.bool false)], args := [d1, d2, d3] }
  | _ => none }
def PickRestsWrongFalsely : Prop := pickRestsRow.holds Try.pinned (OpenSpec.ofChange pickRestsWrong)

/- THE SECOND FORM. 'bulk': how many values and letters a reading holds, each counted each time it is reached (what is shared counts as often as it is met; a slice's spare places count too). A statement '..UptoSaid' is the law's where the arguments, and the package variables that the reading takes, are together of bulk at most 1048576: NARROWER than '..Said'. Prove '..Said' where nothing that the law and all that it calls make is longer than what came in: it says more and counts as full. Else prove '..UptoSaid'. A law counts once. -/
mutual
def uptoBulk {H : Type} : DataW H → Nat
  | .lit (.string bytes) => bytes.length + 1
  | .lit _ => 1
  | .nil => 1
  | .ptr d => uptoBulk d + 1
  | .slice elems spare => uptoBulkAll elems + uptoBulkAll spare + 1
  | .agg parts => uptoBulkAll parts + 1
  | .iface _ d => uptoBulk d + 1
  | .map entries => uptoBulkEntries entries + 1
  | .held _ => 1
def uptoBulkAll {H : Type} : List (DataW H) → Nat
  | [] => 0
  | d :: r => uptoBulk d + uptoBulkAll r
def uptoBulkEntries {H : Type} : List (Lit × DataW H) → Nat
  | [] => 0
  | x :: r => uptoBulkEntry x + uptoBulkEntries r
def uptoBulkEntry {H : Type} : Lit × DataW H → Nat
  | (.string bytes, d) => bytes.length + uptoBulk d + 1
  | (_, d) => uptoBulk d + 1
 end
def uptoSmall : (H : Type) → List (DataW H) → Bool := fun _ ds => decide (uptoBulkAll ds ≤ 1048576)
def OpenSpec.upto (s : _root_.Go.ChangeSpec) : _root_.Go.OpenSpec := { _root_.Go.OpenSpec.ofChange s with cond := some uptoSmall }

/-- 'tantaluslaw21.PickLimits', WHERE WHAT IT READS IS OF BULK AT MOST 1048576: true; the input reads as it did. -/
def pickLimitsUptoRow : OpenClaim := { program := "ytnhipfnbnilleaa", sum := "e4b65b5f809ebdc2062b2cffab44cafd7c8d8e78b5be77747a2a98155de96644", func := "tantalus/tantaluslaw21.PickLimits", spec := "pickLimits", unfollowed := true, recurses := true, apart := false, narrowed := true }
def PickLimitsUptoSaid : Prop := pickLimitsUptoRow.holds Try.pinned (OpenSpec.upto pickLimitsSpec)

/-- 'tantaluslaw21.PickPicks', WHERE WHAT IT READS IS OF BULK AT MOST 1048576: true; the input reads as it did. -/
def pickPicksUptoRow : OpenClaim := { program := "ytnhipfnbnilleaa", sum := "e4b65b5f809ebdc2062b2cffab44cafd7c8d8e78b5be77747a2a98155de96644", func := "tantalus/tantaluslaw21.PickPicks", spec := "pickPicks", unfollowed := true, recurses := true, apart := false, narrowed := true }
def PickPicksUptoSaid : Prop := pickPicksUptoRow.holds Try.pinned (OpenSpec.upto pickPicksSpec)

/-- 'tantaluslaw21.PickThere', WHERE WHAT IT READS IS OF BULK AT MOST 1048576: true; the input reads as it did. -/
def pickThereUptoRow : OpenClaim := { program := "ytnhipfnbnilleaa", sum := "e4b65b5f809ebdc2062b2cffab44cafd7c8d8e78b5be77747a2a98155de96644", func := "tantalus/tantaluslaw21.PickThere", spec := "pickThere", unfollowed := true, recurses := true, apart := false, narrowed := true }
def PickThereUptoSaid : Prop := pickThereUptoRow.holds Try.pinned (OpenSpec.upto pickThereSpec)

/-- 'tantaluslaw21.PickFulls', WHERE WHAT IT READS IS OF BULK AT MOST 1048576: true; the input reads as it did. -/
def pickFullsUptoRow : OpenClaim := { program := "ytnhipfnbnilleaa", sum := "e4b65b5f809ebdc2062b2cffab44cafd7c8d8e78b5be77747a2a98155de96644", func := "tantalus/tantaluslaw21.PickFulls", spec := "pickFulls", unfollowed := true, recurses := true, apart := false, narrowed := true }
def PickFullsUptoSaid : Prop := pickFullsUptoRow.holds Try.pinned (OpenSpec.upto pickFullsSpec)

/-- 'tantaluslaw21.PickRests', WHERE WHAT IT READS IS OF BULK AT MOST 1048576: true; the input reads as it did. -/
def pickRestsUptoRow : OpenClaim := { program := "ytnhipfnbnilleaa", sum := "e4b65b5f809ebdc2062b2cffab44cafd7c8d8e78b5be77747a2a98155de96644", func := "tantalus/tantaluslaw21.PickRests", spec := "pickRests", unfollowed := true, recurses := true, apart := false, narrowed := true }
def PickRestsUptoSaid : Prop := pickRestsUptoRow.holds Try.pinned (OpenSpec.upto pickRestsSpec)

end Rows
end Go.Proofs.Ytnhipfnbnilleaa
