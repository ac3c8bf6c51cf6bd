/-
  No cell of these rows narrows 'for every input' (looked for: loops, veiled, ifaces, maps, wideKeys, modest, calm, conditions, laid).
  DERIVED. THE GIVEN ROWS OF THIS SEAT. 6 by the template 'for every input the law returns true; each argument reads behind the call as it read before'; 0 by the template 'total and deterministic' (their statements: YtoklfnonbfcdlaaTotals.lean).
  GIVEN WITH THE SEED: the statements are not yours to turn. If you find one false, say at which input.
  Laid BY PROGRAM, IN A SANDBOX (cutbox-rows.mjs): the forced cells as the released guide's own fill.sh prints them over the translation f09a63e4ba798b83… (all of the seat's roots in one cut). By AI agents, Wed Nov 11 2026. No macro, syntax, notation, axiom, sorry.
-/
import Derived.Test.YtoklfnonbfcdlaaChecked
import GoSem.Claim
import GoSem.ClaimJoined
import GoSem.ClaimMapViews
import Derived.JoinedTies
import Derived.KernelRfl
namespace Go.Proofs.Ytoklfnonbfcdlaa
/- THE CELL 'sum', in the pinned program and in every row, IS THE sha256 OF THE DUMP (.gsa) THAT YtoklfnonbfcdlaaProg.lean LOADS. Nothing in Lean hashes anything: it is a label: what it is worth is what the hold of that sum in a sandbox is worth. -/
noncomputable def Try.pinned : Pinned := { name := "ytoklfnonbfcdlaa", sum := "f09a63e4ba798b83b5da1ab9696ea76134d1ae8a517b4d4ac0eccbac42420968", checked := Try.checked }
namespace Rows
def none {H : Type} : Left H := { results := [], args := [] }

/-- 'magnetolaw32.KnockSteps': WHATEVER THE INPUT: true; the input reads as it did. -/
def knockStepsSpec : ChangeSpec := { name := "knockSteps", fn := fun _ => fun
  | [d1, d2] => { results := [.lit (.bool true)], args := [d1, d2] }
  | _ => none }
def knockStepsRow : OpenClaim := { program := "ytoklfnonbfcdlaa", sum := "f09a63e4ba798b83b5da1ab9696ea76134d1ae8a517b4d4ac0eccbac42420968", func := "magneto/magnetolaw32.KnockSteps", spec := "knockSteps", named := ["math/bits.divideError", "math/bits.overflowError"], apart := false }
def KnockStepsSaid : Prop := knockStepsRow.holds Try.pinned (OpenSpec.ofChange knockStepsSpec)

/-- ITS FALSE NEIGHBOUR: 'it returns false'. Refute it at one input. -/
def knockStepsWrong : ChangeSpec := { name := "knockSteps", fn := fun _ => fun
  | [d1, d2] => { results := [.lit (.bool false)], args := [d1, d2] }
  | _ => none }
def KnockStepsWrongFalsely : Prop := knockStepsRow.holds Try.pinned (OpenSpec.ofChange knockStepsWrong)

/-- 'magnetolaw32.KnockChanges': WHATEVER THE INPUT: true; the input reads as it did. -/
def knockChangesSpec : ChangeSpec := { name := "knockChanges", fn := fun _ => fun
  | [d1, d2] => { results := [.lit (.bool true)], args := [d1, d2] }
  | _ => none }
def knockChangesRow : OpenClaim := { program := "ytoklfnonbfcdlaa", sum := "f09a63e4ba798b83b5da1ab9696ea76134d1ae8a517b4d4ac0eccbac42420968", func := "magneto/magnetolaw32.KnockChanges", spec := "knockChanges", named := ["math/bits.divideError", "math/bits.overflowError"], apart := false }
def KnockChangesSaid : Prop := knockChangesRow.holds Try.pinned (OpenSpec.ofChange knockChangesSpec)

/-- ITS FALSE NEIGHBOUR: 'it returns false'. Refute it at one input. -/
def knockChangesWrong : ChangeSpec := { name := "knockChanges", fn := fun _ => fun
  | [d1, d2] => { results := [.lit (.bool false)], args := [d1, d2] }
  | _ => none }
def KnockChangesWrongFalsely : Prop := knockChangesRow.holds Try.pinned (OpenSpec.ofChange knockChangesWrong)

/-- 'magnetolaw32.KnockRuns': WHATEVER THE INPUT: true; the input reads as it did. -/
def knockRunsSpec : ChangeSpec := { name := "knockRuns", fn := fun _ => fun
  | [d1, d2] => { results := [.lit (.bool true)], args := [d1, d2] }
  | _ => none }
def knockRunsRow : OpenClaim := { program := "ytoklfnonbfcdlaa", sum := "f09a63e4ba798b83b5da1ab9696ea76134d1ae8a517b4d4ac0eccbac42420968", func := "magneto/magnetolaw32.KnockRuns", spec := "knockRuns", named := ["math/bits.divideError", "math/bits.overflowError"], apart := false }
def KnockRunsSaid : Prop := knockRunsRow.holds Try.pinned (OpenSpec.ofChange knockRunsSpec)

/-- ITS FALSE NEIGHBOUR: 'it returns false'. Refute it at one input. -/
def knockRunsWrong : ChangeSpec := { name := "knockRuns", fn := fun _ => fun
  | [d1, d2] => { results := [.lit (.bool false)], args := [d1, d2] }
  | _ => none }
def KnockRunsWrongFalsely : Prop := knockRunsRow.holds Try.pinned (OpenSpec.ofChange knockRunsWrong)

/-- 'magnetolaw32.KnockAlone': WHATEVER THE INPUT: true; the input reads as it did. -/
def knockAloneSpec : ChangeSpec := { name := "knockAlone", fn := fun _ => fun
  | [d1, d2, d3] => { results := [.lit (.bool true)], args := [d1, d2, d3] }
  | _ => none }
def knockAloneRow : OpenClaim := { program := "ytoklfnonbfcdlaa", sum := "f09a63e4ba798b83b5da1ab9696ea76134d1ae8a517b4d4ac0eccbac42420968", func := "magneto/magnetolaw32.KnockAlone", spec := "knockAlone", unfollowed := true, recurses := true, named := ["math/bits.divideError", "math/bits.overflowError"], apart := false }
def KnockAloneSaid : Prop := knockAloneRow.holds Try.pinned (OpenSpec.ofChange knockAloneSpec)

/-- ITS FALSE NEIGHBOUR: 'it returns false'. Refute it at one input. -/
def knockAloneWrong : ChangeSpec := { name := "knockAlone", fn := fun _ => fun
  | [d1, d2, d3] => { results := [.lit (.bool false)], args := [d1, d2, d3] }
  | _ => none }
def KnockAloneWrongFalsely : Prop := knockAloneRow.holds Try.pinned (OpenSpec.ofChange knockAloneWrong)

/-- 'magnetolaw32.KnockWindows': WHATEVER THE INPUT: true; the input reads as it did. -/
def knockWindowsSpec : ChangeSpec := { name := "knockWindows", fn := fun _ => fun
  | [d1, d2, d3] => { results := [.lit (.bool true)], args := [d1, d2, d3] }
  | _ => none }
def knockWindowsRow : OpenClaim := { program := "ytoklfnonbfcdlaa", sum := "f09a63e4ba798b83b5da1ab9696ea76134d1ae8a517b4d4ac0eccbac42420968", func := "magneto/magnetolaw32.KnockWindows", spec := "knockWindows", named := ["math/bits.divideError", "math/bits.overflowError"], apart := false }
def KnockWindowsSaid : Prop := knockWindowsRow.holds Try.pinned (OpenSpec.ofChange knockWindowsSpec)

/-- ITS FALSE NEIGHBOUR: 'it returns false'. Refute it at one input. -/
def knockWindowsWrong : ChangeSpec := { name := "knockWindows", fn := fun _ => fun
  | [d1, d2, d3] => { results := [.lit (.bool false)], args := [d1, d2, d3] }
  | _ => none }
def KnockWindowsWrongFalsely : Prop := knockWindowsRow.holds Try.pinned (OpenSpec.ofChange knockWindowsWrong)

/-- 'magnetolaw32.KnockAll': WHATEVER THE INPUT: true; the input reads as it did. -/
def knockAllSpec : ChangeSpec := { name := "knockAll", fn := fun _ => fun
  | [d1, d2, d3] => { results := [.lit (.bool true)], args := [d1, d2, d3] }
  | _ => none }
def knockAllRow : OpenClaim := { program := "ytoklfnonbfcdlaa", sum := "f09a63e4ba798b83b5da1ab9696ea76134d1ae8a517b4d4ac0eccbac42420968", func := "magneto/magnetolaw32.KnockAll", spec := "knockAll", unfollowed := true, recurses := true, named := ["math/bits.divideError", "math/bits.overflowError"], apart := false }
def KnockAllSaid : Prop := knockAllRow.holds Try.pinned (OpenSpec.ofChange knockAllSpec)

/-- ITS FALSE NEIGHBOUR: 'it returns false'. Refute it at one input. -/
def knockAllWrong : ChangeSpec := { name := "knockAll", fn := fun _ => fun
  | [d1, d2, d3] => { results := [.lit (.bool false)], args := [d1, d2, d3] }
  | _ => none }
def KnockAllWrongFalsely : Prop := knockAllRow.holds Try.pinned (OpenSpec.ofChange knockAllWrong)

/- THE SECOND FORM. 'bulk': how many values and letters a reading holds, each counted each time it is reached (what is shared counts as often as it is met; a slice's spare places count too). A statement '..UptoSaid' is the law's where the arguments, and the package variables that the reading takes, are together of bulk at most 1048576: NARROWER than '..Said'. Prove '..Said' where nothing that the law and all that it calls make is longer than what came in: it says more and counts as full. Else prove '..UptoSaid'. A law counts once. -/
mutual
def uptoBulk {H : Type} : DataW H → Nat
  | .lit (.string bytes) => bytes.length + 1
  | .lit _ => 1
  | .nil => 1
  | .ptr d => uptoBulk d + 1
  | .slice elems spare => uptoBulkAll elems + uptoBulkAll spare + 1
  | .agg parts => uptoBulkAll parts + 1
  | .iface _ d => uptoBulk d + 1
  | .map entries => uptoBulkEntries entries + 1
  | .held _ => 1
def uptoBulkAll {H : Type} : List (DataW H) → Nat
  | [] => 0
  | d :: r => uptoBulk d + uptoBulkAll r
def uptoBulkEntries {H : Type} : List (Lit × DataW H) → Nat
  | [] => 0
  | x :: r => uptoBulkEntry x + uptoBulkEntries r
def uptoBulkEntry {H : Type} : Lit × DataW H → Nat
  | (.string bytes, d) => bytes.length + uptoBulk d + 1
  | (_, d) => uptoBulk d + 1
 end
def uptoSmall : (H : Type) → List (DataW H) → Bool := fun _ ds => decide (uptoBulkAll ds ≤ 1048576)
def OpenSpec.upto (s : _root_.Go.ChangeSpec) : _root_.Go.OpenSpec := { _root_.Go.OpenSpec.ofChange s with cond := some uptoSmall }

/-- 'magnetolaw32.KnockSteps', WHERE WHAT IT READS IS OF BULK AT MOST 1048576: true; the input reads as it did. -/
def knockStepsUptoRow : OpenClaim := { program := "ytoklfnonbfcdlaa", sum := "f09a63e4ba798b83b5da1ab9696ea76134d1ae8a517b4d4ac0eccbac42420968", func := "magneto/magnetolaw32.KnockSteps", spec := "knockSteps", named := ["math/bits.divideError", "math/bits.overflowError"], apart := false, narrowed := true }
def KnockStepsUptoSaid : Prop := knockStepsUptoRow.holds Try.pinned (OpenSpec.upto knockStepsSpec)

/-- 'magnetolaw32.KnockChanges', WHERE WHAT IT READS IS OF BULK AT MOST 1048576: true; the input reads as it did. -/
def knockChangesUptoRow : OpenClaim := { program := "ytoklfnonbfcdlaa", sum := "f09a63e4ba798b83b5da1ab9696ea76134d1ae8a517b4d4ac0eccbac42420968", func := "magneto/magnetolaw32.KnockChanges", spec := "knockChanges", named := ["math/bits.divideError", "math/bits.overflowError"], apart := false, narrowed := true }
def KnockChangesUptoSaid : Prop := knockChangesUptoRow.holds Try.pinned (OpenSpec.upto knockChangesSpec)

/-- 'magnetolaw32.KnockRuns', WHERE WHAT IT READS IS OF BULK AT MOST 1048576: true; the input reads as it did. -/
def knockRunsUptoRow : OpenClaim := { program := "ytoklfnonbfcdlaa", sum := "f09a63e4ba798b83b5da1ab9696ea76134d1ae8a517b4d4ac0eccbac42420968", func := "magneto/magnetolaw32.KnockRuns", spec := "knockRuns", named := ["math/bits.divideError", "math/bits.overflowError"], apart := false, narrowed := true }
def KnockRunsUptoSaid : Prop := knockRunsUptoRow.holds Try.pinned (OpenSpec.upto knockRunsSpec)

/-- 'magnetolaw32.KnockAlone', WHERE WHAT IT READS IS OF BULK AT MOST 1048576: true; the input reads as it did. -/
def knockAloneUptoRow : OpenClaim := { program := "ytoklfnonbfcdlaa", sum := "f09a63e4ba798b83b5da1ab9696ea76134d1ae8a517b4d4ac0eccbac42420968", func := "magneto/magnetolaw32.KnockAlone", spec := "knockAlone", unfollowed := true, recurses := true, named := ["math/bits.divideError", "math/bits.overflowError"], apart := false, narrowed := true }
def KnockAloneUptoSaid : Prop := knockAloneUptoRow.holds Try.pinned (OpenSpec.upto knockAloneSpec)

/-- 'magnetolaw32.KnockWindows', WHERE WHAT IT READS IS OF BULK AT MOST 1048576: true; the input reads as it did. -/
def knockWindowsUptoRow : OpenClaim := { program := "ytoklfnonbfcdlaa", sum := "f09a63e4ba798b83b5da1ab9696ea76134d1ae8a517b4d4ac0eccbac42420968", func := "magneto/magnetolaw32.KnockWindows", spec := "knockWindows", named := ["math/bits.divideError", "math/bits.overflowError"], apart := false, narrowed := true }
def KnockWindowsUptoSaid : Prop := knockWindowsUptoRow.holds Try.pinned (OpenSpec.upto knockWindowsSpec)

/-- 'magnetolaw32.KnockAll', WHERE WHAT IT READS IS OF BULK AT MOST 1048576: true; the input reads as it did. -/
def knockAllUptoRow : OpenClaim := { program := "ytoklfnonbfcdlaa", sum := "f09a63e4ba798b83b5da1ab9696ea76134d1ae8a517b4d4ac0eccbac42420968", func := "magneto/magnetolaw32.KnockAll", spec := "knockAll", unfollowed := true, recurses := true, named := ["math/bits.divideError", "math/bits.overflowError"], apart := false, narrowed := true }
def KnockAllUptoSaid : Prop := knockAllUptoRow.holds Try.pinned (OpenSpec.upto knockAllSpec)

end Rows
end Go.Proofs.Ytoklfnonbfcdlaa
