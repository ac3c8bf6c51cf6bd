/-
  No cell of these rows narrows 'for every input' (looked for: loops, veiled, ifaces, maps, wideKeys, modest, calm, conditions, laid).
  DERIVED. THE GIVEN ROWS OF THIS SEAT. 9 by the template 'for every input the law returns true; each argument reads behind the call as it read before'; 0 by the template 'total and deterministic' (their statements: YtnioihmchajmlaaTotals.lean).
  GIVEN WITH THE SEED: the statements are not yours to turn. If you find one false, say at which input.
  Laid BY PROGRAM, IN A SANDBOX (cutbox-rows.mjs): the forced cells as the released guide's own fill.sh prints them over the translation 5b1759a339e45aa5… (all of the seat's roots in one cut). By AI agents, Wed Nov 11 2026. No macro, syntax, notation, axiom, sorry.
-/
import Derived.Test.YtnioihmchajmlaaChecked
import GoSem.Claim
import GoSem.ClaimJoined
import GoSem.ClaimMapViews
import Derived.JoinedTies
import Derived.KernelRfl
namespace Go.Proofs.Ytnioihmchajmlaa
/- THE CELL 'sum', in the pinned program and in every row, IS THE sha256 OF THE DUMP (.gsa) THAT YtnioihmchajmlaaProg.lean LOADS. Nothing in Lean hashes anything: it is a label: what it is worth is what the hold of that sum in a sandbox is worth. -/
noncomputable def Try.pinned : Pinned := { name := "ytnioihmchajmlaa", sum := "5b1759a339e45aa53fb70bc137fd95eef3fe755a06abff9584df68723cbae5de", checked := Try.checked }
namespace Rows
def none {H : Type} : Left H := { results := [], args := [] }

/-- 'magnetolaw27.PlantSteps': WHATEVER THE INPUT: true; the input reads as it did. -/
def plantStepsSpec : ChangeSpec := { name := "plantSteps", fn := fun _ => fun
  | [d1, d2, d3, d4, d5, d6] => { results := [.lit (.bool true)], args := [d1, d2, d3, d4, d5, d6] }
  | _ => none }
def plantStepsRow : OpenClaim := { program := "ytnioihmchajmlaa", sum := "5b1759a339e45aa53fb70bc137fd95eef3fe755a06abff9584df68723cbae5de", func := "magneto/magnetolaw27.PlantSteps", spec := "plantSteps", named := ["math/bits.divideError", "math/bits.overflowError"], apart := false }
def PlantStepsSaid : Prop := plantStepsRow.holds Try.pinned (OpenSpec.ofChange plantStepsSpec)

/-- ITS FALSE NEIGHBOUR: 'it returns false'. Refute it at one input. -/
def plantStepsWrong : ChangeSpec := { name := "plantSteps", fn := fun _ => fun
  | [d1, d2, d3, d4, d5, d6] => { results := [.lit (.bool false)], args := [d1, d2, d3, d4, d5, d6] }
  | _ => none }
def PlantStepsWrongFalsely : Prop := plantStepsRow.holds Try.pinned (OpenSpec.ofChange plantStepsWrong)

/-- 'magnetolaw27.PlantInjects': WHATEVER THE INPUT: true; the input reads as it did. -/
def plantInjectsSpec : ChangeSpec := { name := "plantInjects", fn := fun _ => fun
  | [d1, d2, d3, d4] => { results := [.lit (.bool true)], args := [d1, d2, d3, d4] }
  | _ => none }
def plantInjectsRow : OpenClaim := { program := "ytnioihmchajmlaa", sum := "5b1759a339e45aa53fb70bc137fd95eef3fe755a06abff9584df68723cbae5de", func := "magneto/magnetolaw27.PlantInjects", spec := "plantInjects", named := ["math/bits.divideError", "math/bits.overflowError"], apart := false }
def PlantInjectsSaid : Prop := plantInjectsRow.holds Try.pinned (OpenSpec.ofChange plantInjectsSpec)

/-- ITS FALSE NEIGHBOUR: 'it returns false'. Refute it at one input. -/
def plantInjectsWrong : ChangeSpec := { name := "plantInjects", fn := fun _ => fun
  | [d1, d2, d3, d4] => { results := [.lit (.bool false)], args := [d1, d2, d3, d4] }
  | _ => none }
def PlantInjectsWrongFalsely : Prop := plantInjectsRow.holds Try.pinned (OpenSpec.ofChange plantInjectsWrong)

/-- 'magnetolaw27.PlantKeeps': WHATEVER THE INPUT: true; the input reads as it did. -/
def plantKeepsSpec : ChangeSpec := { name := "plantKeeps", fn := fun _ => fun
  | [d1, d2] => { results := [.lit (.bool true)], args := [d1, d2] }
  | _ => none }
def plantKeepsRow : OpenClaim := { program := "ytnioihmchajmlaa", sum := "5b1759a339e45aa53fb70bc137fd95eef3fe755a06abff9584df68723cbae5de", func := "magneto/magnetolaw27.PlantKeeps", spec := "plantKeeps", named := ["math/bits.divideError", "math/bits.overflowError"], apart := false }
def PlantKeepsSaid : Prop := plantKeepsRow.holds Try.pinned (OpenSpec.ofChange plantKeepsSpec)

/-- ITS FALSE NEIGHBOUR: 'it returns false'. Refute it at one input. -/
def plantKeepsWrong : ChangeSpec := { name := "plantKeeps", fn := fun _ => fun
  | [d1, d2] => { results := [.lit (.bool false)], args := [d1, d2] }
  | _ => none }
def PlantKeepsWrongFalsely : Prop := plantKeepsRow.holds Try.pinned (OpenSpec.ofChange plantKeepsWrong)

/-- 'magnetolaw27.PlantMass': WHATEVER THE INPUT: true; the input reads as it did. -/
def plantMassSpec : ChangeSpec := { name := "plantMass", fn := fun _ => fun
  | [d1, d2, d3, d4] => { results := [.lit (.bool true)], args := [d1, d2, d3, d4] }
  | _ => none }
def plantMassRow : OpenClaim := { program := "ytnioihmchajmlaa", sum := "5b1759a339e45aa53fb70bc137fd95eef3fe755a06abff9584df68723cbae5de", func := "magneto/magnetolaw27.PlantMass", spec := "plantMass", named := ["math/bits.divideError", "math/bits.overflowError"], apart := false }
def PlantMassSaid : Prop := plantMassRow.holds Try.pinned (OpenSpec.ofChange plantMassSpec)

/-- ITS FALSE NEIGHBOUR: 'it returns false'. Refute it at one input. -/
def plantMassWrong : ChangeSpec := { name := "plantMass", fn := fun _ => fun
  | [d1, d2, d3, d4] => { results := [.lit (.bool false)], args := [d1, d2, d3, d4] }
  | _ => none }
def PlantMassWrongFalsely : Prop := plantMassRow.holds Try.pinned (OpenSpec.ofChange plantMassWrong)

/-- 'magnetolaw27.PlantExact': WHATEVER THE INPUT: true; the input reads as it did. -/
def plantExactSpec : ChangeSpec := { name := "plantExact", fn := fun _ => fun
  | [d1, d2, d3] => { results := [.lit (.bool true)], args := [d1, d2, d3] }
  | _ => none }
def plantExactRow : OpenClaim := { program := "ytnioihmchajmlaa", sum := "5b1759a339e45aa53fb70bc137fd95eef3fe755a06abff9584df68723cbae5de", func := "magneto/magnetolaw27.PlantExact", spec := "plantExact", named := ["math/bits.divideError", "math/bits.overflowError"], apart := false }
def PlantExactSaid : Prop := plantExactRow.holds Try.pinned (OpenSpec.ofChange plantExactSpec)

/-- ITS FALSE NEIGHBOUR: 'it returns false'. Refute it at one input. -/
def plantExactWrong : ChangeSpec := { name := "plantExact", fn := fun _ => fun
  | [d1, d2, d3] => { results := [.lit (.bool false)], args := [d1, d2, d3] }
  | _ => none }
def PlantExactWrongFalsely : Prop := plantExactRow.holds Try.pinned (OpenSpec.ofChange plantExactWrong)

/-- 'magnetolaw27.PlantBreathes': WHATEVER THE INPUT: true; the input reads as it did. -/
def plantBreathesSpec : ChangeSpec := { name := "plantBreathes", fn := fun _ => fun
  | [d1, d2, d3, d4] => { results := [.lit (.bool true)], args := [d1, d2, d3, d4] }
  | _ => none }
def plantBreathesRow : OpenClaim := { program := "ytnioihmchajmlaa", sum := "5b1759a339e45aa53fb70bc137fd95eef3fe755a06abff9584df68723cbae5de", func := "magneto/magnetolaw27.PlantBreathes", spec := "plantBreathes", named := ["math/bits.divideError", "math/bits.overflowError"], apart := false }
def PlantBreathesSaid : Prop := plantBreathesRow.holds Try.pinned (OpenSpec.ofChange plantBreathesSpec)

/-- ITS FALSE NEIGHBOUR: 'it returns false'. Refute it at one input. -/
def plantBreathesWrong : ChangeSpec := { name := "plantBreathes", fn := fun _ => fun
  | [d1, d2, d3, d4] => { results := [.lit (.bool false)], args := [d1, d2, d3, d4] }
  | _ => none }
def PlantBreathesWrongFalsely : Prop := plantBreathesRow.holds Try.pinned (OpenSpec.ofChange plantBreathesWrong)

/-- 'magnetolaw27.PlantValid': WHATEVER THE INPUT: true; the input reads as it did. -/
def plantValidSpec : ChangeSpec := { name := "plantValid", fn := fun _ => fun
  | [d1, d2] => { results := [.lit (.bool true)], args := [d1, d2] }
  | _ => none }
def plantValidRow : OpenClaim := { program := "ytnioihmchajmlaa", sum := "5b1759a339e45aa53fb70bc137fd95eef3fe755a06abff9584df68723cbae5de", func := "magneto/magnetolaw27.PlantValid", spec := "plantValid", named := ["math/bits.divideError", "math/bits.overflowError"], apart := false }
def PlantValidSaid : Prop := plantValidRow.holds Try.pinned (OpenSpec.ofChange plantValidSpec)

/-- ITS FALSE NEIGHBOUR: 'it returns false'. Refute it at one input. -/
def plantValidWrong : ChangeSpec := { name := "plantValid", fn := fun _ => fun
  | [d1, d2] => { results := [.lit (.bool false)], args := [d1, d2] }
  | _ => none }
def PlantValidWrongFalsely : Prop := plantValidRow.holds Try.pinned (OpenSpec.ofChange plantValidWrong)

/-- 'magnetolaw27.PlantDelays': WHATEVER THE INPUT: true; the input reads as it did. -/
def plantDelaysSpec : ChangeSpec := { name := "plantDelays", fn := fun _ => fun
  | [d1, d2, d3] => { results := [.lit (.bool true)], args := [d1, d2, d3] }
  | _ => none }
def plantDelaysRow : OpenClaim := { program := "ytnioihmchajmlaa", sum := "5b1759a339e45aa53fb70bc137fd95eef3fe755a06abff9584df68723cbae5de", func := "magneto/magnetolaw27.PlantDelays", spec := "plantDelays", named := ["math/bits.divideError", "math/bits.overflowError"], apart := false }
def PlantDelaysSaid : Prop := plantDelaysRow.holds Try.pinned (OpenSpec.ofChange plantDelaysSpec)

/-- ITS FALSE NEIGHBOUR: 'it returns false'. Refute it at one input. -/
def plantDelaysWrong : ChangeSpec := { name := "plantDelays", fn := fun _ => fun
  | [d1, d2, d3] => { results := [.lit (.bool false)], args := [d1, d2, d3] }
  | _ => none }
def PlantDelaysWrongFalsely : Prop := plantDelaysRow.holds Try.pinned (OpenSpec.ofChange plantDelaysWrong)

/-- 'magnetolaw27.PlantTurns': WHATEVER THE INPUT: true; the input reads as it did. -/
def plantTurnsSpec : ChangeSpec := { name := "plantTurns", fn := fun _ => fun
  | [d1, d2] => { results := [.lit (.bool true)], args := [d1, d2] }
  | _ => none }
def plantTurnsRow : OpenClaim := { program := "ytnioihmchajmlaa", sum := "5b1759a339e45aa53fb70bc137fd95eef3fe755a06abff9584df68723cbae5de", func := "magneto/magnetolaw27.PlantTurns", spec := "plantTurns", named := ["math/bits.divideError", "math/bits.overflowError"], apart := false }
def PlantTurnsSaid : Prop := plantTurnsRow.holds Try.pinned (OpenSpec.ofChange plantTurnsSpec)

/-- ITS FALSE NEIGHBOUR: 'it returns false'. Refute it at one input. -/
def plantTurnsWrong : ChangeSpec := { name := "plantTurns", fn := fun _ => fun
  | [d1, d2] => { results := [.lit (.bool false)], args := [d1, d2] }
  | _ => none }
def PlantTurnsWrongFalsely : Prop := plantTurnsRow.holds Try.pinned (OpenSpec.ofChange plantTurnsWrong)

/- THE SECOND FORM. 'bulk': how many values and letters a reading holds, each counted each time it is reached (what is shared counts as often as it is met; a slice's spare places count too). A statement '..UptoSaid' is the law's where the arguments, and the package variables that the reading takes, are together of bulk at most 1048576: NARROWER than '..Said'. Prove '..Said' where nothing that the law and all that it calls make is longer than what came in: it says more and counts as full. Else prove '..UptoSaid'. A law counts once. -/
mutual
def uptoBulk {H : Type} : DataW H → Nat
  | .lit (.string bytes) => bytes.length + 1
  | .lit _ => 1
  | .nil => 1
  | .ptr d => uptoBulk d + 1
  | .slice elems spare => uptoBulkAll elems + uptoBulkAll spare + 1
  | .agg parts => uptoBulkAll parts + 1
  | .iface _ d => uptoBulk d + 1
  | .map entries => uptoBulkEntries entries + 1
  | .held _ => 1
def uptoBulkAll {H : Type} : List (DataW H) → Nat
  | [] => 0
  | d :: r => uptoBulk d + uptoBulkAll r
def uptoBulkEntries {H : Type} : List (Lit × DataW H) → Nat
  | [] => 0
  | x :: r => uptoBulkEntry x + uptoBulkEntries r
def uptoBulkEntry {H : Type} : Lit × DataW H → Nat
  | (.string bytes, d) => bytes.length + uptoBulk d + 1
  | (_, d) => uptoBulk d + 1
 end
def uptoSmall : (H : Type) → List (DataW H) → Bool := fun _ ds => decide (uptoBulkAll ds ≤ 1048576)
def OpenSpec.upto (s : _root_.Go.ChangeSpec) : _root_.Go.OpenSpec := { _root_.Go.OpenSpec.ofChange s with cond := some uptoSmall }

/-- 'magnetolaw27.PlantSteps', WHERE WHAT IT READS IS OF BULK AT MOST 1048576: true; the input reads as it did. -/
def plantStepsUptoRow : OpenClaim := { program := "ytnioihmchajmlaa", sum := "5b1759a339e45aa53fb70bc137fd95eef3fe755a06abff9584df68723cbae5de", func := "magneto/magnetolaw27.PlantSteps", spec := "plantSteps", named := ["math/bits.divideError", "math/bits.overflowError"], apart := false, narrowed := true }
def PlantStepsUptoSaid : Prop := plantStepsUptoRow.holds Try.pinned (OpenSpec.upto plantStepsSpec)

/-- 'magnetolaw27.PlantInjects', WHERE WHAT IT READS IS OF BULK AT MOST 1048576: true; the input reads as it did. -/
def plantInjectsUptoRow : OpenClaim := { program := "ytnioihmchajmlaa", sum := "5b1759a339e45aa53fb70bc137fd95eef3fe755a06abff9584df68723cbae5de", func := "magneto/magnetolaw27.PlantInjects", spec := "plantInjects", named := ["math/bits.divideError", "math/bits.overflowError"], apart := false, narrowed := true }
def PlantInjectsUptoSaid : Prop := plantInjectsUptoRow.holds Try.pinned (OpenSpec.upto plantInjectsSpec)

/-- 'magnetolaw27.PlantKeeps', WHERE WHAT IT READS IS OF BULK AT MOST 1048576: true; the input reads as it did. -/
def plantKeepsUptoRow : OpenClaim := { program := "ytnioihmchajmlaa", sum := "5b1759a339e45aa53fb70bc137fd95eef3fe755a06abff9584df68723cbae5de", func := "magneto/magnetolaw27.PlantKeeps", spec := "plantKeeps", named := ["math/bits.divideError", "math/bits.overflowError"], apart := false, narrowed := true }
def PlantKeepsUptoSaid : Prop := plantKeepsUptoRow.holds Try.pinned (OpenSpec.upto plantKeepsSpec)

/-- 'magnetolaw27.PlantMass', WHERE WHAT IT READS IS OF BULK AT MOST 1048576: true; the input reads as it did. -/
def plantMassUptoRow : OpenClaim := { program := "ytnioihmchajmlaa", sum := "5b1759a339e45aa53fb70bc137fd95eef3fe755a06abff9584df68723cbae5de", func := "magneto/magnetolaw27.PlantMass", spec := "plantMass", named := ["math/bits.divideError", "math/bits.overflowError"], apart := false, narrowed := true }
def PlantMassUptoSaid : Prop := plantMassUptoRow.holds Try.pinned (OpenSpec.upto plantMassSpec)

/-- 'magnetolaw27.PlantExact', WHERE WHAT IT READS IS OF BULK AT MOST 1048576: true; the input reads as it did. -/
def plantExactUptoRow : OpenClaim := { program := "ytnioihmchajmlaa", sum := "5b1759a339e45aa53fb70bc137fd95eef3fe755a06abff9584df68723cbae5de", func := "magneto/magnetolaw27.PlantExact", spec := "plantExact", named := ["math/bits.divideError", "math/bits.overflowError"], apart := false, narrowed := true }
def PlantExactUptoSaid : Prop := plantExactUptoRow.holds Try.pinned (OpenSpec.upto plantExactSpec)

/-- 'magnetolaw27.PlantBreathes', WHERE WHAT IT READS IS OF BULK AT MOST 1048576: true; the input reads as it did. -/
def plantBreathesUptoRow : OpenClaim := { program := "ytnioihmchajmlaa", sum := "5b1759a339e45aa53fb70bc137fd95eef3fe755a06abff9584df68723cbae5de", func := "magneto/magnetolaw27.PlantBreathes", spec := "plantBreathes", named := ["math/bits.divideError", "math/bits.overflowError"], apart := false, narrowed := true }
def PlantBreathesUptoSaid : Prop := plantBreathesUptoRow.holds Try.pinned (OpenSpec.upto plantBreathesSpec)

/-- 'magnetolaw27.PlantValid', WHERE WHAT IT READS IS OF BULK AT MOST 1048576: true; the input reads as it did. -/
def plantValidUptoRow : OpenClaim := { program := "ytnioihmchajmlaa", sum := "5b1759a339e45aa53fb70bc137fd95eef3fe755a06abff9584df68723cbae5de", func := "magneto/magnetolaw27.PlantValid", spec := "plantValid", named := ["math/bits.divideError", "math/bits.overflowError"], apart := false, narrowed := true }
def PlantValidUptoSaid : Prop := plantValidUptoRow.holds Try.pinned (OpenSpec.upto plantValidSpec)

/-- 'magnetolaw27.PlantDelays', WHERE WHAT IT READS IS OF BULK AT MOST 1048576: true; the input reads as it did. -/
def plantDelaysUptoRow : OpenClaim := { program := "ytnioihmchajmlaa", sum := "5b1759a339e45aa53fb70bc137fd95eef3fe755a06abff9584df68723cbae5de", func := "magneto/magnetolaw27.PlantDelays", spec := "plantDelays", named := ["math/bits.divideError", "math/bits.overflowError"], apart := false, narrowed := true }
def PlantDelaysUptoSaid : Prop := plantDelaysUptoRow.holds Try.pinned (OpenSpec.upto plantDelaysSpec)

/-- 'magnetolaw27.PlantTurns', WHERE WHAT IT READS IS OF BULK AT MOST 1048576: true; the input reads as it did. -/
def plantTurnsUptoRow : OpenClaim := { program := "ytnioihmchajmlaa", sum := "5b1759a339e45aa53fb70bc137fd95eef3fe755a06abff9584df68723cbae5de", func := "magneto/magnetolaw27.PlantTurns", spec := "plantTurns", named := ["math/bits.divideError", "math/bits.overflowError"], apart := false, narrowed := true }
def PlantTurnsUptoSaid : Prop := plantTurnsUptoRow.holds Try.pinned (OpenSpec.upto plantTurnsSpec)

end Rows
end Go.Proofs.Ytnioihmchajmlaa
