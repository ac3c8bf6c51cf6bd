/-
  No cell of these rows narrows 'for every input' (looked for: loops, veiled, ifaces, maps, wideKeys, modest, calm, conditions, laid).
  DERIVED. THE GIVEN ROWS OF THIS SEAT. 10 by the template 'for every input the law returns true; each argument reads behind the call as it read before'; 0 by the template 'total and deterministic' (their statements: YthfliohfkhnpiaaTotals.lean).
  GIVEN WITH THE SEED: the statements are not yours to turn. If you find one false, say at which input.
  Laid BY PROGRAM, IN A SANDBOX (cutbox-rows.mjs): the forced cells as the released guide's own fill.sh prints them over the translation faa3bfdee2cba5e5… (all of the seat's roots in one cut). By AI agents, Wed Nov 11 2026. No macro, syntax, notation, axiom, sorry.
-/
import Derived.Test.YthfliohfkhnpiaaChecked
import GoSem.Claim
import GoSem.ClaimJoined
import GoSem.ClaimMapViews
import Derived.JoinedTies
import Derived.KernelRfl
namespace Go.Proofs.Ythfliohfkhnpiaa
/- THE CELL 'sum', in the pinned program and in every row, IS THE sha256 OF THE DUMP (.gsa) THAT YthfliohfkhnpiaaProg.lean LOADS. Nothing in Lean hashes anything: it is a label: what it is worth is what the hold of that sum in a sandbox is worth. -/
noncomputable def Try.pinned : Pinned := { name := "ythfliohfkhnpiaa", sum := "faa3bfdee2cba5e5739872fc84517c7d8a9a678c99509bd4517f6e84642ab0cb", checked := Try.checked }
namespace Rows
def none {H : Type} : Left H := { results := [], args := [] }

/-- 'magnetolaw19.ToothTrue': WHATEVER THE INPUT: true; the input reads as it did. -/
def toothTrueSpec : ChangeSpec := { name := "toothTrue", fn := fun _ => fun
  | [d1, d2, d3, d4] => { results := [.lit (.bool true)], args := [d1, d2, d3, d4] }
  | _ => none }
def toothTrueRow : OpenClaim := { program := "ythfliohfkhnpiaa", sum := "faa3bfdee2cba5e5739872fc84517c7d8a9a678c99509bd4517f6e84642ab0cb", func := "magneto/magnetolaw19.ToothTrue", spec := "toothTrue", unfollowed := true, recurses := true, named := ["math/bits.divideError", "math/bits.overflowError"], apart := false }
def ToothTrueSaid : Prop := toothTrueRow.holds Try.pinned (OpenSpec.ofChange toothTrueSpec)

/-- ITS FALSE NEIGHBOUR: 'it returns false'. Refute it at one input. -/
def toothTrueWrong : ChangeSpec := { name := "toothTrue", fn := fun _ => fun
  | [d1, d2, d3, d4] => { results := [.lit (.bool false)], args := [d1, d2, d3, d4] }
  | _ => none }
def ToothTrueWrongFalsely : Prop := toothTrueRow.holds Try.pinned (OpenSpec.ofChange toothTrueWrong)

/-- 'magnetolaw20.SyncLocks': WHATEVER THE INPUT: true; the input reads as it did. -/
def syncLocksSpec : ChangeSpec := { name := "syncLocks", fn := fun _ => fun
  | [d1, d2, d3, d4] => { results := [.lit (.bool true)], args := [d1, d2, d3, d4] }
  | _ => none }
def syncLocksRow : OpenClaim := { program := "ythfliohfkhnpiaa", sum := "faa3bfdee2cba5e5739872fc84517c7d8a9a678c99509bd4517f6e84642ab0cb", func := "magneto/magnetolaw20.SyncLocks", spec := "syncLocks", unfollowed := true, recurses := true, named := ["math/bits.divideError", "math/bits.overflowError"], apart := false }
def SyncLocksSaid : Prop := syncLocksRow.holds Try.pinned (OpenSpec.ofChange syncLocksSpec)

/-- ITS FALSE NEIGHBOUR: 'it returns false'. Refute it at one input. -/
def syncLocksWrong : ChangeSpec := { name := "syncLocks", fn := fun _ => fun
  | [d1, d2, d3, d4] => { results := [.lit (.bool false)], args := [d1, d2, d3, d4] }
  | _ => none }
def SyncLocksWrongFalsely : Prop := syncLocksRow.holds Try.pinned (OpenSpec.ofChange syncLocksWrong)

/-- 'magnetolaw18.SignalTimes': WHATEVER THE INPUT: true; the input reads as it did. -/
def signalTimesSpec : ChangeSpec := { name := "signalTimes", fn := fun _ => fun
  | [d1, d2, d3] => { results := [.lit (.bool true)], args := [d1, d2, d3] }
  | _ => none }
def signalTimesRow : OpenClaim := { program := "ythfliohfkhnpiaa", sum := "faa3bfdee2cba5e5739872fc84517c7d8a9a678c99509bd4517f6e84642ab0cb", func := "magneto/magnetolaw18.SignalTimes", spec := "signalTimes", unfollowed := true, recurses := true, named := ["math/bits.divideError", "math/bits.overflowError"], apart := false }
def SignalTimesSaid : Prop := signalTimesRow.holds Try.pinned (OpenSpec.ofChange signalTimesSpec)

/-- ITS FALSE NEIGHBOUR: 'it returns false'. Refute it at one input. -/
def signalTimesWrong : ChangeSpec := { name := "signalTimes", fn := fun _ => fun
  | [d1, d2, d3] => { results := [.lit (.bool false)], args := [d1, d2, d3] }
  | _ => none }
def SignalTimesWrongFalsely : Prop := signalTimesRow.holds Try.pinned (OpenSpec.ofChange signalTimesWrong)

/-- 'magnetolaw18.SignalPeriods': WHATEVER THE INPUT: true; the input reads as it did. -/
def signalPeriodsSpec : ChangeSpec := { name := "signalPeriods", fn := fun _ => fun
  | [d] => { results := [.lit (.bool true)], args := [d] }
  | _ => none }
def signalPeriodsRow : OpenClaim := { program := "ythfliohfkhnpiaa", sum := "faa3bfdee2cba5e5739872fc84517c7d8a9a678c99509bd4517f6e84642ab0cb", func := "magneto/magnetolaw18.SignalPeriods", spec := "signalPeriods", unfollowed := true, recurses := true, named := ["math/bits.divideError", "math/bits.overflowError"], apart := false }
def SignalPeriodsSaid : Prop := signalPeriodsRow.holds Try.pinned (OpenSpec.ofChange signalPeriodsSpec)

/-- ITS FALSE NEIGHBOUR: 'it returns false'. Refute it at one input. -/
def signalPeriodsWrong : ChangeSpec := { name := "signalPeriods", fn := fun _ => fun
  | [d] => { results := [.lit (.bool false)], args := [d] }
  | _ => none }
def SignalPeriodsWrongFalsely : Prop := signalPeriodsRow.holds Try.pinned (OpenSpec.ofChange signalPeriodsWrong)

/-- 'magnetolaw18.SignalEdges': WHATEVER THE INPUT: true; the input reads as it did. -/
def signalEdgesSpec : ChangeSpec := { name := "signalEdges", fn := fun _ => fun
  | [d1, d2, d3, d4] => { results := [.lit (.bool true)], args := [d1, d2, d3, d4] }
  | _ => none }
def signalEdgesRow : OpenClaim := { program := "ythfliohfkhnpiaa", sum := "faa3bfdee2cba5e5739872fc84517c7d8a9a678c99509bd4517f6e84642ab0cb", func := "magneto/magnetolaw18.SignalEdges", spec := "signalEdges", unfollowed := true, recurses := true, named := ["math/bits.divideError", "math/bits.overflowError"], apart := false }
def SignalEdgesSaid : Prop := signalEdgesRow.holds Try.pinned (OpenSpec.ofChange signalEdgesSpec)

/-- ITS FALSE NEIGHBOUR: 'it returns false'. Refute it at one input. -/
def signalEdgesWrong : ChangeSpec := { name := "signalEdges", fn := fun _ => fun
  | [d1, d2, d3, d4] => { results := [.lit (.bool false)], args := [d1, d2, d3, d4] }
  | _ => none }
def SignalEdgesWrongFalsely : Prop := signalEdgesRow.holds Try.pinned (OpenSpec.ofChange signalEdgesWrong)

/-- 'magnetolaw18.SignalTolerates': WHATEVER THE INPUT: true; the input reads as it did. -/
def signalToleratesSpec : ChangeSpec := { name := "signalTolerates", fn := fun _ => fun
  | [d1, d2, d3, d4] => { results := [.lit (.bool true)], args := [d1, d2, d3, d4] }
  | _ => none }
def signalToleratesRow : OpenClaim := { program := "ythfliohfkhnpiaa", sum := "faa3bfdee2cba5e5739872fc84517c7d8a9a678c99509bd4517f6e84642ab0cb", func := "magneto/magnetolaw18.SignalTolerates", spec := "signalTolerates", unfollowed := true, recurses := true, named := ["math/bits.divideError", "math/bits.overflowError"], apart := false }
def SignalToleratesSaid : Prop := signalToleratesRow.holds Try.pinned (OpenSpec.ofChange signalToleratesSpec)

/-- ITS FALSE NEIGHBOUR: 'it returns false'. Refute it at one input. -/
def signalToleratesWrong : ChangeSpec := { name := "signalTolerates", fn := fun _ => fun
  | [d1, d2, d3, d4] => { results := [.lit (.bool false)], args := [d1, d2, d3, d4] }
  | _ => none }
def SignalToleratesWrongFalsely : Prop := signalToleratesRow.holds Try.pinned (OpenSpec.ofChange signalToleratesWrong)

/-- 'magnetolaw18.SignalSpaces': WHATEVER THE INPUT: true; the input reads as it did. -/
def signalSpacesSpec : ChangeSpec := { name := "signalSpaces", fn := fun _ => fun
  | [d1, d2, d3, d4] => { results := [.lit (.bool true)], args := [d1, d2, d3, d4] }
  | _ => none }
def signalSpacesRow : OpenClaim := { program := "ythfliohfkhnpiaa", sum := "faa3bfdee2cba5e5739872fc84517c7d8a9a678c99509bd4517f6e84642ab0cb", func := "magneto/magnetolaw18.SignalSpaces", spec := "signalSpaces", unfollowed := true, recurses := true, named := ["math/bits.divideError", "math/bits.overflowError"], apart := false }
def SignalSpacesSaid : Prop := signalSpacesRow.holds Try.pinned (OpenSpec.ofChange signalSpacesSpec)

/-- ITS FALSE NEIGHBOUR: 'it returns false'. Refute it at one input. -/
def signalSpacesWrong : ChangeSpec := { name := "signalSpaces", fn := fun _ => fun
  | [d1, d2, d3, d4] => { results := [.lit (.bool false)], args := [d1, d2, d3, d4] }
  | _ => none }
def SignalSpacesWrongFalsely : Prop := signalSpacesRow.holds Try.pinned (OpenSpec.ofChange signalSpacesWrong)

/-- 'magnetolaw18.SignalApplies': WHATEVER THE INPUT: true; the input reads as it did. -/
def signalAppliesSpec : ChangeSpec := { name := "signalApplies", fn := fun _ => fun
  | [d1, d2] => { results := [.lit (.bool true)], args := [d1, d2] }
  | _ => none }
def signalAppliesRow : OpenClaim := { program := "ythfliohfkhnpiaa", sum := "faa3bfdee2cba5e5739872fc84517c7d8a9a678c99509bd4517f6e84642ab0cb", func := "magneto/magnetolaw18.SignalApplies", spec := "signalApplies", unfollowed := true, recurses := true, named := ["math/bits.divideError", "math/bits.overflowError"], apart := false }
def SignalAppliesSaid : Prop := signalAppliesRow.holds Try.pinned (OpenSpec.ofChange signalAppliesSpec)

/-- ITS FALSE NEIGHBOUR: 'it returns false'. Refute it at one input. -/
def signalAppliesWrong : ChangeSpec := { name := "signalApplies", fn := fun _ => fun
  | [d1, d2] => { results := [.lit (.bool false)], args := [d1, d2] }
  | _ => none }
def SignalAppliesWrongFalsely : Prop := signalAppliesRow.holds Try.pinned (OpenSpec.ofChange signalAppliesWrong)

/-- 'magnetolaw18.SignalSets': WHATEVER THE INPUT: true; the input reads as it did. -/
def signalSetsSpec : ChangeSpec := { name := "signalSets", fn := fun _ => fun
  | [d1, d2] => { results := [.lit (.bool true)], args := [d1, d2] }
  | _ => none }
def signalSetsRow : OpenClaim := { program := "ythfliohfkhnpiaa", sum := "faa3bfdee2cba5e5739872fc84517c7d8a9a678c99509bd4517f6e84642ab0cb", func := "magneto/magnetolaw18.SignalSets", spec := "signalSets", unfollowed := true, recurses := true, named := ["math/bits.divideError", "math/bits.overflowError"], apart := false }
def SignalSetsSaid : Prop := signalSetsRow.holds Try.pinned (OpenSpec.ofChange signalSetsSpec)

/-- ITS FALSE NEIGHBOUR: 'it returns false'. Refute it at one input. -/
def signalSetsWrong : ChangeSpec := { name := "signalSets", fn := fun _ => fun
  | [d1, d2] => { results := [.lit (.bool false)], args := [d1, d2] }
  | _ => none }
def SignalSetsWrongFalsely : Prop := signalSetsRow.holds Try.pinned (OpenSpec.ofChange signalSetsWrong)

/-- 'magnetolaw18.SignalQuiet': WHATEVER THE INPUT: true; the input reads as it did. -/
def signalQuietSpec : ChangeSpec := { name := "signalQuiet", fn := fun _ => fun
  | [d1, d2, d3, d4] => { results := [.lit (.bool true)], args := [d1, d2, d3, d4] }
  | _ => none }
def signalQuietRow : OpenClaim := { program := "ythfliohfkhnpiaa", sum := "faa3bfdee2cba5e5739872fc84517c7d8a9a678c99509bd4517f6e84642ab0cb", func := "magneto/magnetolaw18.SignalQuiet", spec := "signalQuiet", unfollowed := true, recurses := true, named := ["math/bits.divideError", "math/bits.overflowError"], apart := false }
def SignalQuietSaid : Prop := signalQuietRow.holds Try.pinned (OpenSpec.ofChange signalQuietSpec)

/-- ITS FALSE NEIGHBOUR: 'it returns false'. Refute it at one input. -/
def signalQuietWrong : ChangeSpec := { name := "signalQuiet", fn := fun _ => fun
  | [d1, d2, d3, d4] => { results := [.lit (.bool false)], args := [d1, d2, d3, d4] }
  | _ => none }
def SignalQuietWrongFalsely : Prop := signalQuietRow.holds Try.pinned (OpenSpec.ofChange signalQuietWrong)

/- THE SECOND FORM. 'bulk': how many values and letters a reading holds, each counted each time it is reached (what is shared counts as often as it is met; a slice's spare places count too). A statement '..UptoSaid' is the law's where the arguments, and the package variables that the reading takes, are together of bulk at most 1048576: NARROWER than '..Said'. Prove '..Said' where nothing that the law and all that it calls make is longer than what came in: it says more and counts as full. Else prove '..UptoSaid'. A law counts once. -/
mutual
def uptoBulk {H : Type} : DataW H → Nat
  | .lit (.string bytes) => bytes.length + 1
  | .lit _ => 1
  | .nil => 1
  | .ptr d => uptoBulk d + 1
  | .slice elems spare => uptoBulkAll elems + uptoBulkAll spare + 1
  | .agg parts => uptoBulkAll parts + 1
  | .iface _ d => uptoBulk d + 1
  | .map entries => uptoBulkEntries entries + 1
  | .held _ => 1
def uptoBulkAll {H : Type} : List (DataW H) → Nat
  | [] => 0
  | d :: r => uptoBulk d + uptoBulkAll r
def uptoBulkEntries {H : Type} : List (Lit × DataW H) → Nat
  | [] => 0
  | x :: r => uptoBulkEntry x + uptoBulkEntries r
def uptoBulkEntry {H : Type} : Lit × DataW H → Nat
  | (.string bytes, d) => bytes.length + uptoBulk d + 1
  | (_, d) => uptoBulk d + 1
 end
def uptoSmall : (H : Type) → List (DataW H) → Bool := fun _ ds => decide (uptoBulkAll ds ≤ 1048576)
def OpenSpec.upto (s : _root_.Go.ChangeSpec) : _root_.Go.OpenSpec := { _root_.Go.OpenSpec.ofChange s with cond := some uptoSmall }

/-- 'magnetolaw19.ToothTrue', WHERE WHAT IT READS IS OF BULK AT MOST 1048576: true; the input reads as it did. -/
def toothTrueUptoRow : OpenClaim := { program := "ythfliohfkhnpiaa", sum := "faa3bfdee2cba5e5739872fc84517c7d8a9a678c99509bd4517f6e84642ab0cb", func := "magneto/magnetolaw19.ToothTrue", spec := "toothTrue", unfollowed := true, recurses := true, named := ["math/bits.divideError", "math/bits.overflowError"], apart := false, narrowed := true }
def ToothTrueUptoSaid : Prop := toothTrueUptoRow.holds Try.pinned (OpenSpec.upto toothTrueSpec)

/-- 'magnetolaw20.SyncLocks', WHERE WHAT IT READS IS OF BULK AT MOST 1048576: true; the input reads as it did. -/
def syncLocksUptoRow : OpenClaim := { program := "ythfliohfkhnpiaa", sum := "faa3bfdee2cba5e5739872fc84517c7d8a9a678c99509bd4517f6e84642ab0cb", func := "magneto/magnetolaw20.SyncLocks", spec := "syncLocks", unfollowed := true, recurses := true, named := ["math/bits.divideError", "math/bits.overflowError"], apart := false, narrowed := true }
def SyncLocksUptoSaid : Prop := syncLocksUptoRow.holds Try.pinned (OpenSpec.upto syncLocksSpec)

/-- 'magnetolaw18.SignalTimes', WHERE WHAT IT READS IS OF BULK AT MOST 1048576: true; the input reads as it did. -/
def signalTimesUptoRow : OpenClaim := { program := "ythfliohfkhnpiaa", sum := "faa3bfdee2cba5e5739872fc84517c7d8a9a678c99509bd4517f6e84642ab0cb", func := "magneto/magnetolaw18.SignalTimes", spec := "signalTimes", unfollowed := true, recurses := true, named := ["math/bits.divideError", "math/bits.overflowError"], apart := false, narrowed := true }
def SignalTimesUptoSaid : Prop := signalTimesUptoRow.holds Try.pinned (OpenSpec.upto signalTimesSpec)

/-- 'magnetolaw18.SignalPeriods', WHERE WHAT IT READS IS OF BULK AT MOST 1048576: true; the input reads as it did. -/
def signalPeriodsUptoRow : OpenClaim := { program := "ythfliohfkhnpiaa", sum := "faa3bfdee2cba5e5739872fc84517c7d8a9a678c99509bd4517f6e84642ab0cb", func := "magneto/magnetolaw18.SignalPeriods", spec := "signalPeriods", unfollowed := true, recurses := true, named := ["math/bits.divideError", "math/bits.overflowError"], apart := false, narrowed := true }
def SignalPeriodsUptoSaid : Prop := signalPeriodsUptoRow.holds Try.pinned (OpenSpec.upto signalPeriodsSpec)

/-- 'magnetolaw18.SignalEdges', WHERE WHAT IT READS IS OF BULK AT MOST 1048576: true; the input reads as it did. -/
def signalEdgesUptoRow : OpenClaim := { program := "ythfliohfkhnpiaa", sum := "faa3bfdee2cba5e5739872fc84517c7d8a9a678c99509bd4517f6e84642ab0cb", func := "magneto/magnetolaw18.SignalEdges", spec := "signalEdges", unfollowed := true, recurses := true, named := ["math/bits.divideError", "math/bits.overflowError"], apart := false, narrowed := true }
def SignalEdgesUptoSaid : Prop := signalEdgesUptoRow.holds Try.pinned (OpenSpec.upto signalEdgesSpec)

/-- 'magnetolaw18.SignalTolerates', WHERE WHAT IT READS IS OF BULK AT MOST 1048576: true; the input reads as it did. -/
def signalToleratesUptoRow : OpenClaim := { program := "ythfliohfkhnpiaa", sum := "faa3bfdee2cba5e5739872fc84517c7d8a9a678c99509bd4517f6e84642ab0cb", func := "magneto/magnetolaw18.SignalTolerates", spec := "signalTolerates", unfollowed := true, recurses := true, named := ["math/bits.divideError", "math/bits.overflowError"], apart := false, narrowed := true }
def SignalToleratesUptoSaid : Prop := signalToleratesUptoRow.holds Try.pinned (OpenSpec.upto signalToleratesSpec)

/-- 'magnetolaw18.SignalSpaces', WHERE WHAT IT READS IS OF BULK AT MOST 1048576: true; the input reads as it did. -/
def signalSpacesUptoRow : OpenClaim := { program := "ythfliohfkhnpiaa", sum := "faa3bfdee2cba5e5739872fc84517c7d8a9a678c99509bd4517f6e84642ab0cb", func := "magneto/magnetolaw18.SignalSpaces", spec := "signalSpaces", unfollowed := true, recurses := true, named := ["math/bits.divideError", "math/bits.overflowError"], apart := false, narrowed := true }
def SignalSpacesUptoSaid : Prop := signalSpacesUptoRow.holds Try.pinned (OpenSpec.upto signalSpacesSpec)

/-- 'magnetolaw18.SignalApplies', WHERE WHAT IT READS IS OF BULK AT MOST 1048576: true; the input reads as it did. -/
def signalAppliesUptoRow : OpenClaim := { program := "ythfliohfkhnpiaa", sum := "faa3bfdee2cba5e5739872fc84517c7d8a9a678c99509bd4517f6e84642ab0cb", func := "magneto/magnetolaw18.SignalApplies", spec := "signalApplies", unfollowed := true, recurses := true, named := ["math/bits.divideError", "math/bits.overflowError"], apart := false, narrowed := true }
def SignalAppliesUptoSaid : Prop := signalAppliesUptoRow.holds Try.pinned (OpenSpec.upto signalAppliesSpec)

/-- 'magnetolaw18.SignalSets', WHERE WHAT IT READS IS OF BULK AT MOST 1048576: true; the input reads as it did. -/
def signalSetsUptoRow : OpenClaim := { program := "ythfliohfkhnpiaa", sum := "faa3bfdee2cba5e5739872fc84517c7d8a9a678c99509bd4517f6e84642ab0cb", func := "magneto/magnetolaw18.SignalSets", spec := "signalSets", unfollowed := true, recurses := true, named := ["math/bits.divideError", "math/bits.overflowError"], apart := false, narrowed := true }
def SignalSetsUptoSaid : Prop := signalSetsUptoRow.holds Try.pinned (OpenSpec.upto signalSetsSpec)

/-- 'magnetolaw18.SignalQuiet', WHERE WHAT IT READS IS OF BULK AT MOST 1048576: true; the input reads as it did. -/
def signalQuietUptoRow : OpenClaim := { program := "ythfliohfkhnpiaa", sum := "faa3bfdee2cba5e5739872fc84517c7d8a9a678c99509bd4517f6e84642ab0cb", func := "magneto/magnetolaw18.SignalQuiet", spec := "signalQuiet", unfollowed := true, recurses := true, named := ["math/bits.divideError", "math/bits.overflowError"], apart := false, narrowed := true }
def SignalQuietUptoSaid : Prop := signalQuietUptoRow.holds Try.pinned (OpenSpec.upto signalQuietSpec)

end Rows
end Go.Proofs.Ythfliohfkhnpiaa
