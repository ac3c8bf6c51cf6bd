/-
  No cell of these rows narrows 'for every input' (looked for: loops, veiled, ifaces, maps, wideKeys, modest, calm, conditions, laid).
  DERIVED. THE GIVEN ROWS OF THIS SEAT. 6 by the template 'for every input the law returns true; each argument reads behind the call as it read before'; 0 by the template 'total and deterministic' (their statements: YtcaadikffaflnaaTotals.lean).
  GIVEN WITH THE SEED: the statements are not yours to turn. If you find one false, say at which input.
  Laid BY PROGRAM, IN A SANDBOX (cutbox-rows.mjs): the forced cells as the released guide's own fill.sh prints them over the translation 3d7a9a772b1f635e… (all of the seat's roots in one cut). By AI agents, Wed Nov 11 2026. No macro, syntax, notation, axiom, sorry.
-/
import Derived.Test.YtcaadikffaflnaaChecked
import GoSem.Claim
import GoSem.ClaimJoined
import GoSem.ClaimMapViews
import Derived.JoinedTies
import Derived.KernelRfl
namespace Go.Proofs.Ytcaadikffaflnaa
/- THE CELL 'sum', in the pinned program and in every row, IS THE sha256 OF THE DUMP (.gsa) THAT YtcaadikffaflnaaProg.lean LOADS. Nothing in Lean hashes anything: it is a label: what it is worth is what the hold of that sum in a sandbox is worth. -/
noncomputable def Try.pinned : Pinned := { name := "ytcaadikffaflnaa", sum := "3d7a9a772b1f635ec0e938bc9ff8a194bbe4f0d56bb65c18d0e5216aad29d80d", checked := Try.checked }
namespace Rows
def none {H : Type} : Left H := { results := [], args := [] }

/-- 'magnetolaw20.SyncShifts': WHATEVER THE INPUT: true; the input reads as it did. -/
def syncShiftsSpec : ChangeSpec := { name := "syncShifts", fn := fun _ => fun
  | [d1, d2, d3] => { results := [.lit (.bool true)], args := [d1, d2, d3] }
  | _ => none }
def syncShiftsRow : OpenClaim := { program := "ytcaadikffaflnaa", sum := "3d7a9a772b1f635ec0e938bc9ff8a194bbe4f0d56bb65c18d0e5216aad29d80d", func := "magneto/magnetolaw20.SyncShifts", spec := "syncShifts", unfollowed := true, recurses := true, apart := false }
def SyncShiftsSaid : Prop := syncShiftsRow.holds Try.pinned (OpenSpec.ofChange syncShiftsSpec)

/-- ITS FALSE NEIGHBOUR: 'it returns false'. Refute it at one input. -/
def syncShiftsWrong : ChangeSpec := { name := "syncShifts", fn := fun _ => fun
  | [d1, d2, d3] => { results := [.lit (.bool false)], args := [d1, d2, d3] }
  | _ => none }
def SyncShiftsWrongFalsely : Prop := syncShiftsRow.holds Try.pinned (OpenSpec.ofChange syncShiftsWrong)

/-- 'magnetolaw20.SyncSeeks': WHATEVER THE INPUT: true; the input reads as it did. -/
def syncSeeksSpec : ChangeSpec := { name := "syncSeeks", fn := fun _ => fun
  | [d1, d2] => { results := [.lit (.bool true)], args := [d1, d2] }
  | _ => none }
def syncSeeksRow : OpenClaim := { program := "ytcaadikffaflnaa", sum := "3d7a9a772b1f635ec0e938bc9ff8a194bbe4f0d56bb65c18d0e5216aad29d80d", func := "magneto/magnetolaw20.SyncSeeks", spec := "syncSeeks", unfollowed := true, recurses := true, apart := false }
def SyncSeeksSaid : Prop := syncSeeksRow.holds Try.pinned (OpenSpec.ofChange syncSeeksSpec)

/-- ITS FALSE NEIGHBOUR: 'it returns false'. Refute it at one input. -/
def syncSeeksWrong : ChangeSpec := { name := "syncSeeks", fn := fun _ => fun
  | [d1, d2] => { results := [.lit (.bool false)], args := [d1, d2] }
  | _ => none }
def SyncSeeksWrongFalsely : Prop := syncSeeksRow.holds Try.pinned (OpenSpec.ofChange syncSeeksWrong)

/-- 'magnetolaw20.SyncSteps': WHATEVER THE INPUT: true; the input reads as it did. -/
def syncStepsSpec : ChangeSpec := { name := "syncSteps", fn := fun _ => fun
  | [d1, d2, d3] => { results := [.lit (.bool true)], args := [d1, d2, d3] }
  | _ => none }
def syncStepsRow : OpenClaim := { program := "ytcaadikffaflnaa", sum := "3d7a9a772b1f635ec0e938bc9ff8a194bbe4f0d56bb65c18d0e5216aad29d80d", func := "magneto/magnetolaw20.SyncSteps", spec := "syncSteps", unfollowed := true, recurses := true, apart := false }
def SyncStepsSaid : Prop := syncStepsRow.holds Try.pinned (OpenSpec.ofChange syncStepsSpec)

/-- ITS FALSE NEIGHBOUR: 'it returns false'. Refute it at one input. -/
def syncStepsWrong : ChangeSpec := { name := "syncSteps", fn := fun _ => fun
  | [d1, d2, d3] => { results := [.lit (.bool false)], args := [d1, d2, d3] }
  | _ => none }
def SyncStepsWrongFalsely : Prop := syncStepsRow.holds Try.pinned (OpenSpec.ofChange syncStepsWrong)

/-- 'magnetolaw20.SyncWindows': WHATEVER THE INPUT: true; the input reads as it did. -/
def syncWindowsSpec : ChangeSpec := { name := "syncWindows", fn := fun _ => fun
  | [d1, d2, d3] => { results := [.lit (.bool true)], args := [d1, d2, d3] }
  | _ => none }
def syncWindowsRow : OpenClaim := { program := "ytcaadikffaflnaa", sum := "3d7a9a772b1f635ec0e938bc9ff8a194bbe4f0d56bb65c18d0e5216aad29d80d", func := "magneto/magnetolaw20.SyncWindows", spec := "syncWindows", unfollowed := true, recurses := true, apart := false }
def SyncWindowsSaid : Prop := syncWindowsRow.holds Try.pinned (OpenSpec.ofChange syncWindowsSpec)

/-- ITS FALSE NEIGHBOUR: 'it returns false'. Refute it at one input. -/
def syncWindowsWrong : ChangeSpec := { name := "syncWindows", fn := fun _ => fun
  | [d1, d2, d3] => { results := [.lit (.bool false)], args := [d1, d2, d3] }
  | _ => none }
def SyncWindowsWrongFalsely : Prop := syncWindowsRow.holds Try.pinned (OpenSpec.ofChange syncWindowsWrong)

/-- 'magnetolaw20.SyncRuns': WHATEVER THE INPUT: true; the input reads as it did. -/
def syncRunsSpec : ChangeSpec := { name := "syncRuns", fn := fun _ => fun
  | [d1, d2, d3, d4] => { results := [.lit (.bool true)], args := [d1, d2, d3, d4] }
  | _ => none }
def syncRunsRow : OpenClaim := { program := "ytcaadikffaflnaa", sum := "3d7a9a772b1f635ec0e938bc9ff8a194bbe4f0d56bb65c18d0e5216aad29d80d", func := "magneto/magnetolaw20.SyncRuns", spec := "syncRuns", unfollowed := true, recurses := true, apart := false }
def SyncRunsSaid : Prop := syncRunsRow.holds Try.pinned (OpenSpec.ofChange syncRunsSpec)

/-- ITS FALSE NEIGHBOUR: 'it returns false'. Refute it at one input. -/
def syncRunsWrong : ChangeSpec := { name := "syncRuns", fn := fun _ => fun
  | [d1, d2, d3, d4] => { results := [.lit (.bool false)], args := [d1, d2, d3, d4] }
  | _ => none }
def SyncRunsWrongFalsely : Prop := syncRunsRow.holds Try.pinned (OpenSpec.ofChange syncRunsWrong)

/-- 'magnetolaw20.SyncStalls': WHATEVER THE INPUT: true; the input reads as it did. -/
def syncStallsSpec : ChangeSpec := { name := "syncStalls", fn := fun _ => fun
  | [d1, d2, d3] => { results := [.lit (.bool true)], args := [d1, d2, d3] }
  | _ => none }
def syncStallsRow : OpenClaim := { program := "ytcaadikffaflnaa", sum := "3d7a9a772b1f635ec0e938bc9ff8a194bbe4f0d56bb65c18d0e5216aad29d80d", func := "magneto/magnetolaw20.SyncStalls", spec := "syncStalls", unfollowed := true, recurses := true, apart := false }
def SyncStallsSaid : Prop := syncStallsRow.holds Try.pinned (OpenSpec.ofChange syncStallsSpec)

/-- ITS FALSE NEIGHBOUR: 'it returns false'. Refute it at one input. -/
def syncStallsWrong : ChangeSpec := { name := "syncStalls", fn := fun _ => fun
  | [d1, d2, d3] => { results := [.lit (.bool false)], args := [d1, d2, d3] }
  | _ => none }
def SyncStallsWrongFalsely : Prop := syncStallsRow.holds Try.pinned (OpenSpec.ofChange syncStallsWrong)

/- THE SECOND FORM. 'bulk': how many values and letters a reading holds, each counted each time it is reached (what is shared counts as often as it is met; a slice's spare places count too). A statement '..UptoSaid' is the law's where the arguments, and the package variables that the reading takes, are together of bulk at most 1048576: NARROWER than '..Said'. Prove '..Said' where nothing that the law and all that it calls make is longer than what came in: it says more and counts as full. Else prove '..UptoSaid'. A law counts once. -/
mutual
def uptoBulk {H : Type} : DataW H → Nat
  | .lit (.string bytes) => bytes.length + 1
  | .lit _ => 1
  | .nil => 1
  | .ptr d => uptoBulk d + 1
  | .slice elems spare => uptoBulkAll elems + uptoBulkAll spare + 1
  | .agg parts => uptoBulkAll parts + 1
  | .iface _ d => uptoBulk d + 1
  | .map entries => uptoBulkEntries entries + 1
  | .held _ => 1
def uptoBulkAll {H : Type} : List (DataW H) → Nat
  | [] => 0
  | d :: r => uptoBulk d + uptoBulkAll r
def uptoBulkEntries {H : Type} : List (Lit × DataW H) → Nat
  | [] => 0
  | x :: r => uptoBulkEntry x + uptoBulkEntries r
def uptoBulkEntry {H : Type} : Lit × DataW H → Nat
  | (.string bytes, d) => bytes.length + uptoBulk d + 1
  | (_, d) => uptoBulk d + 1
 end
def uptoSmall : (H : Type) → List (DataW H) → Bool := fun _ ds => decide (uptoBulkAll ds ≤ 1048576)
def OpenSpec.upto (s : _root_.Go.ChangeSpec) : _root_.Go.OpenSpec := { _root_.Go.OpenSpec.ofChange s with cond := some uptoSmall }

/-- 'magnetolaw20.SyncShifts', WHERE WHAT IT READS IS OF BULK AT MOST 1048576: true; the input reads as it did. -/
def syncShiftsUptoRow : OpenClaim := { program := "ytcaadikffaflnaa", sum := "3d7a9a772b1f635ec0e938bc9ff8a194bbe4f0d56bb65c18d0e5216aad29d80d", func := "magneto/magnetolaw20.SyncShifts", spec := "syncShifts", unfollowed := true, recurses := true, apart := false, narrowed := true }
def SyncShiftsUptoSaid : Prop := syncShiftsUptoRow.holds Try.pinned (OpenSpec.upto syncShiftsSpec)

/-- 'magnetolaw20.SyncSeeks', WHERE WHAT IT READS IS OF BULK AT MOST 1048576: true; the input reads as it did. -/
def syncSeeksUptoRow : OpenClaim := { program := "ytcaadikffaflnaa", sum := "3d7a9a772b1f635ec0e938bc9ff8a194bbe4f0d56bb65c18d0e5216aad29d80d", func := "magneto/magnetolaw20.SyncSeeks", spec := "syncSeeks", unfollowed := true, recurses := true, apart := false, narrowed := true }
def SyncSeeksUptoSaid : Prop := syncSeeksUptoRow.holds Try.pinned (OpenSpec.upto syncSeeksSpec)

/-- 'magnetolaw20.SyncSteps', WHERE WHAT IT READS IS OF BULK AT MOST 1048576: true; the input reads as it did. -/
def syncStepsUptoRow : OpenClaim := { program := "ytcaadikffaflnaa", sum := "3d7a9a772b1f635ec0e938bc9ff8a194bbe4f0d56bb65c18d0e5216aad29d80d", func := "magneto/magnetolaw20.SyncSteps", spec := "syncSteps", unfollowed := true, recurses := true, apart := false, narrowed := true }
def SyncStepsUptoSaid : Prop := syncStepsUptoRow.holds Try.pinned (OpenSpec.upto syncStepsSpec)

/-- 'magnetolaw20.SyncWindows', WHERE WHAT IT READS IS OF BULK AT MOST 1048576: true; the input reads as it did. -/
def syncWindowsUptoRow : OpenClaim := { program := "ytcaadikffaflnaa", sum := "3d7a9a772b1f635ec0e938bc9ff8a194bbe4f0d56bb65c18d0e5216aad29d80d", func := "magneto/magnetolaw20.SyncWindows", spec := "syncWindows", unfollowed := true, recurses := true, apart := false, narrowed := true }
def SyncWindowsUptoSaid : Prop := syncWindowsUptoRow.holds Try.pinned (OpenSpec.upto syncWindowsSpec)

/-- 'magnetolaw20.SyncRuns', WHERE WHAT IT READS IS OF BULK AT MOST 1048576: true; the input reads as it did. -/
def syncRunsUptoRow : OpenClaim := { program := "ytcaadikffaflnaa", sum := "3d7a9a772b1f635ec0e938bc9ff8a194bbe4f0d56bb65c18d0e5216aad29d80d", func := "magneto/magnetolaw20.SyncRuns", spec := "syncRuns", unfollowed := true, recurses := true, apart := false, narrowed := true }
def SyncRunsUptoSaid : Prop := syncRunsUptoRow.holds Try.pinned (OpenSpec.upto syncRunsSpec)

/-- 'magnetolaw20.SyncStalls', WHERE WHAT IT READS IS OF BULK AT MOST 1048576: true; the input reads as it did. -/
def syncStallsUptoRow : OpenClaim := { program := "ytcaadikffaflnaa", sum := "3d7a9a772b1f635ec0e938bc9ff8a194bbe4f0d56bb65c18d0e5216aad29d80d", func := "magneto/magnetolaw20.SyncStalls", spec := "syncStalls", unfollowed := true, recurses := true, apart := false, narrowed := true }
def SyncStallsUptoSaid : Prop := syncStallsUptoRow.holds Try.pinned (OpenSpec.upto syncStallsSpec)

end Rows
end Go.Proofs.Ytcaadikffaflnaa
