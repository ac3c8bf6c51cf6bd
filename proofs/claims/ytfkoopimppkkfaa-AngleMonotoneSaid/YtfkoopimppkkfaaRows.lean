/-
  No cell of these rows narrows 'for every input' (looked for: loops, veiled, ifaces, maps, wideKeys, modest, calm, conditions, laid).
  DERIVED. THE GIVEN ROWS OF THIS SEAT. 7 by the template 'for every input the law returns true; each argument reads behind the call as it read before'; 0 by the template 'total and deterministic' (their statements: YtfkoopimppkkfaaTotals.lean).
  GIVEN WITH THE SEED: the statements are not yours to turn. If you find one false, say at which input.
  Laid BY PROGRAM, IN A SANDBOX (cutbox-rows.mjs): the forced cells as the released guide's own fill.sh prints them over the translation fc49fdb2f33455d9… (all of the seat's roots in one cut). By AI agents, Wed Nov 11 2026. No macro, syntax, notation, axiom, sorry.
-/
import Derived.Test.YtfkoopimppkkfaaChecked
import GoSem.Claim
import GoSem.ClaimJoined
import GoSem.ClaimMapViews
import Derived.JoinedTies
import Derived.KernelRfl
namespace Go.Proofs.Ytfkoopimppkkfaa
/- THE CELL 'sum', in the pinned program and in every row, IS THE sha256 OF THE DUMP (.gsa) THAT YtfkoopimppkkfaaProg.lean LOADS. Nothing in Lean hashes anything: it is a label: what it is worth is what the hold of that sum in a sandbox is worth. -/
noncomputable def Try.pinned : Pinned := { name := "ytfkoopimppkkfaa", sum := "fc49fdb2f33455d96e178b4798ad62b189ca6d9da9468d01a6d1a4420e0b7d55", checked := Try.checked }
namespace Rows
def none {H : Type} : Left H := { results := [], args := [] }

/-- 'magnetolaw22.AngleTimes': WHATEVER THE INPUT: true; the input reads as it did. -/
def angleTimesSpec : ChangeSpec := { name := "angleTimes", fn := fun _ => fun
  | [d1, d2, d3] => { results := [.lit (.bool true)], args := [d1, d2, d3] }
  | _ => none }
def angleTimesRow : OpenClaim := { program := "ytfkoopimppkkfaa", sum := "fc49fdb2f33455d96e178b4798ad62b189ca6d9da9468d01a6d1a4420e0b7d55", func := "magneto/magnetolaw22.AngleTimes", spec := "angleTimes", named := ["math/bits.divideError", "math/bits.overflowError"], apart := false }
def AngleTimesSaid : Prop := angleTimesRow.holds Try.pinned (OpenSpec.ofChange angleTimesSpec)

/-- ITS FALSE NEIGHBOUR: 'it returns false'. Refute it at one input. -/
def angleTimesWrong : ChangeSpec := { name := "angleTimes", fn := fun _ => fun
  | [d1, d2, d3] => { results := [.lit (.bool false)], args := [d1, d2, d3] }
  | _ => none }
def AngleTimesWrongFalsely : Prop := angleTimesRow.holds Try.pinned (OpenSpec.ofChange angleTimesWrong)

/-- 'magnetolaw22.AngleInverse': WHATEVER THE INPUT: true; the input reads as it did. -/
def angleInverseSpec : ChangeSpec := { name := "angleInverse", fn := fun _ => fun
  | [d1, d2] => { results := [.lit (.bool true)], args := [d1, d2] }
  | _ => none }
def angleInverseRow : OpenClaim := { program := "ytfkoopimppkkfaa", sum := "fc49fdb2f33455d96e178b4798ad62b189ca6d9da9468d01a6d1a4420e0b7d55", func := "magneto/magnetolaw22.AngleInverse", spec := "angleInverse", unfollowed := true, recurses := true, named := ["math/bits.divideError", "math/bits.overflowError"], apart := false }
def AngleInverseSaid : Prop := angleInverseRow.holds Try.pinned (OpenSpec.ofChange angleInverseSpec)

/-- ITS FALSE NEIGHBOUR: 'it returns false'. Refute it at one input. -/
def angleInverseWrong : ChangeSpec := { name := "angleInverse", fn := fun _ => fun
  | [d1, d2] => { results := [.lit (.bool false)], args := [d1, d2] }
  | _ => none }
def AngleInverseWrongFalsely : Prop := angleInverseRow.holds Try.pinned (OpenSpec.ofChange angleInverseWrong)

/-- 'magnetolaw22.AngleTeeth': WHATEVER THE INPUT: true; the input reads as it did. -/
def angleTeethSpec : ChangeSpec := { name := "angleTeeth", fn := fun _ => fun
  | [d1, d2, d3, d4, d5, d6] => { results := [.lit (.bool true)], args := [d1, d2, d3, d4, d5, d6] }
  | _ => none }
def angleTeethRow : OpenClaim := { program := "ytfkoopimppkkfaa", sum := "fc49fdb2f33455d96e178b4798ad62b189ca6d9da9468d01a6d1a4420e0b7d55", func := "magneto/magnetolaw22.AngleTeeth", spec := "angleTeeth", named := ["math/bits.divideError", "math/bits.overflowError"], apart := false }
def AngleTeethSaid : Prop := angleTeethRow.holds Try.pinned (OpenSpec.ofChange angleTeethSpec)

/-- ITS FALSE NEIGHBOUR: 'it returns false'. Refute it at one input. -/
def angleTeethWrong : ChangeSpec := { name := "angleTeeth", fn := fun _ => fun
  | [d1, d2, d3, d4, d5, d6] => { results := [.lit (.bool false)], args := [d1, d2, d3, d4, d5, d6] }
  | _ => none }
def AngleTeethWrongFalsely : Prop := angleTeethRow.holds Try.pinned (OpenSpec.ofChange angleTeethWrong)

/-- 'magnetolaw22.AngleMonotone': WHATEVER THE INPUT: true; the input reads as it did. -/
def angleMonotoneSpec : ChangeSpec := { name := "angleMonotone", fn := fun _ => fun
  | [d1, d2, d3] => { results := [.lit (.bool true)], args := [d1, d2, d3] }
  | _ => none }
def angleMonotoneRow : OpenClaim := { program := "ytfkoopimppkkfaa", sum := "fc49fdb2f33455d96e178b4798ad62b189ca6d9da9468d01a6d1a4420e0b7d55", func := "magneto/magnetolaw22.AngleMonotone", spec := "angleMonotone", unfollowed := true, recurses := true, named := ["math/bits.divideError", "math/bits.overflowError"], apart := false }
def AngleMonotoneSaid : Prop := angleMonotoneRow.holds Try.pinned (OpenSpec.ofChange angleMonotoneSpec)

/-- ITS FALSE NEIGHBOUR: 'it returns false'. Refute it at one input. -/
def angleMonotoneWrong : ChangeSpec := { name := "angleMonotone", fn := fun _ => fun
  | [d1, d2, d3] => { results := [.lit (.bool false)], args := [d1, d2, d3] }
  | _ => none }
def AngleMonotoneWrongFalsely : Prop := angleMonotoneRow.holds Try.pinned (OpenSpec.ofChange angleMonotoneWrong)

/-- 'magnetolaw22.AngleAgrees': WHATEVER THE INPUT: true; the input reads as it did. -/
def angleAgreesSpec : ChangeSpec := { name := "angleAgrees", fn := fun _ => fun
  | [d1, d2, d3] => { results := [.lit (.bool true)], args := [d1, d2, d3] }
  | _ => none }
def angleAgreesRow : OpenClaim := { program := "ytfkoopimppkkfaa", sum := "fc49fdb2f33455d96e178b4798ad62b189ca6d9da9468d01a6d1a4420e0b7d55", func := "magneto/magnetolaw22.AngleAgrees", spec := "angleAgrees", named := ["math/bits.divideError", "math/bits.overflowError"], apart := false }
def AngleAgreesSaid : Prop := angleAgreesRow.holds Try.pinned (OpenSpec.ofChange angleAgreesSpec)

/-- ITS FALSE NEIGHBOUR: 'it returns false'. Refute it at one input. -/
def angleAgreesWrong : ChangeSpec := { name := "angleAgrees", fn := fun _ => fun
  | [d1, d2, d3] => { results := [.lit (.bool false)], args := [d1, d2, d3] }
  | _ => none }
def AngleAgreesWrongFalsely : Prop := angleAgreesRow.holds Try.pinned (OpenSpec.ofChange angleAgreesWrong)

/-- 'magnetolaw22.AngleSpeeds': WHATEVER THE INPUT: true; the input reads as it did. -/
def angleSpeedsSpec : ChangeSpec := { name := "angleSpeeds", fn := fun _ => fun
  | [d1, d2] => { results := [.lit (.bool true)], args := [d1, d2] }
  | _ => none }
def angleSpeedsRow : OpenClaim := { program := "ytfkoopimppkkfaa", sum := "fc49fdb2f33455d96e178b4798ad62b189ca6d9da9468d01a6d1a4420e0b7d55", func := "magneto/magnetolaw22.AngleSpeeds", spec := "angleSpeeds", named := ["math/bits.divideError", "math/bits.overflowError"], apart := false }
def AngleSpeedsSaid : Prop := angleSpeedsRow.holds Try.pinned (OpenSpec.ofChange angleSpeedsSpec)

/-- ITS FALSE NEIGHBOUR: 'it returns false'. Refute it at one input. -/
def angleSpeedsWrong : ChangeSpec := { name := "angleSpeeds", fn := fun _ => fun
  | [d1, d2] => { results := [.lit (.bool false)], args := [d1, d2] }
  | _ => none }
def AngleSpeedsWrongFalsely : Prop := angleSpeedsRow.holds Try.pinned (OpenSpec.ofChange angleSpeedsWrong)

/-- 'magnetolaw22.AngleLast': WHATEVER THE INPUT: true; the input reads as it did. -/
def angleLastSpec : ChangeSpec := { name := "angleLast", fn := fun _ => fun
  | [d1, d2, d3, d4, d5] => { results := [.lit (.bool true)], args := [d1, d2, d3, d4, d5] }
  | _ => none }
def angleLastRow : OpenClaim := { program := "ytfkoopimppkkfaa", sum := "fc49fdb2f33455d96e178b4798ad62b189ca6d9da9468d01a6d1a4420e0b7d55", func := "magneto/magnetolaw22.AngleLast", spec := "angleLast", named := ["math/bits.divideError", "math/bits.overflowError"], apart := false }
def AngleLastSaid : Prop := angleLastRow.holds Try.pinned (OpenSpec.ofChange angleLastSpec)

/-- ITS FALSE NEIGHBOUR: 'it returns false'. Refute it at one input. -/
def angleLastWrong : ChangeSpec := { name := "angleLast", fn := fun _ => fun
  | [d1, d2, d3, d4, d5] => { results := [.lit (.bool false)], args := [d1, d2, d3, d4, d5] }
  | _ => none }
def AngleLastWrongFalsely : Prop := angleLastRow.holds Try.pinned (OpenSpec.ofChange angleLastWrong)

/- THE SECOND FORM. 'bulk': how many values and letters a reading holds, each counted each time it is reached (what is shared counts as often as it is met; a slice's spare places count too). A statement '..UptoSaid' is the law's where the arguments, and the package variables that the reading takes, are together of bulk at most 1048576: NARROWER than '..Said'. Prove '..Said' where nothing that the law and all that it calls make is longer than what came in: it says more and counts as full. Else prove '..UptoSaid'. A law counts once. -/
mutual
def uptoBulk {H : Type} : DataW H → Nat
  | .lit (.string bytes) => bytes.length + 1
  | .lit _ => 1
  | .nil => 1
  | .ptr d => uptoBulk d + 1
  | .slice elems spare => uptoBulkAll elems + uptoBulkAll spare + 1
  | .agg parts => uptoBulkAll parts + 1
  | .iface _ d => uptoBulk d + 1
  | .map entries => uptoBulkEntries entries + 1
  | .held _ => 1
def uptoBulkAll {H : Type} : List (DataW H) → Nat
  | [] => 0
  | d :: r => uptoBulk d + uptoBulkAll r
def uptoBulkEntries {H : Type} : List (Lit × DataW H) → Nat
  | [] => 0
  | x :: r => uptoBulkEntry x + uptoBulkEntries r
def uptoBulkEntry {H : Type} : Lit × DataW H → Nat
  | (.string bytes, d) => bytes.length + uptoBulk d + 1
  | (_, d) => uptoBulk d + 1
 end
def uptoSmall : (H : Type) → List (DataW H) → Bool := fun _ ds => decide (uptoBulkAll ds ≤ 1048576)
def OpenSpec.upto (s : _root_.Go.ChangeSpec) : _root_.Go.OpenSpec := { _root_.Go.OpenSpec.ofChange s with cond := some uptoSmall }

/-- 'magnetolaw22.AngleTimes', WHERE WHAT IT READS IS OF BULK AT MOST 1048576: true; the input reads as it did. -/
def angleTimesUptoRow : OpenClaim := { program := "ytfkoopimppkkfaa", sum := "fc49fdb2f33455d96e178b4798ad62b189ca6d9da9468d01a6d1a4420e0b7d55", func := "magneto/magnetolaw22.AngleTimes", spec := "angleTimes", named := ["math/bits.divideError", "math/bits.overflowError"], apart := false, narrowed := true }
def AngleTimesUptoSaid : Prop := angleTimesUptoRow.holds Try.pinned (OpenSpec.upto angleTimesSpec)

/-- 'magnetolaw22.AngleInverse', WHERE WHAT IT READS IS OF BULK AT MOST 1048576: true; the input reads as it did. -/
def angleInverseUptoRow : OpenClaim := { program := "ytfkoopimppkkfaa", sum := "fc49fdb2f33455d96e178b4798ad62b189ca6d9da9468d01a6d1a4420e0b7d55", func := "magneto/magnetolaw22.AngleInverse", spec := "angleInverse", unfollowed := true, recurses := true, named := ["math/bits.divideError", "math/bits.overflowError"], apart := false, narrowed := true }
def AngleInverseUptoSaid : Prop := angleInverseUptoRow.holds Try.pinned (OpenSpec.upto angleInverseSpec)

/-- 'magnetolaw22.AngleTeeth', WHERE WHAT IT READS IS OF BULK AT MOST 1048576: true; the input reads as it did. -/
def angleTeethUptoRow : OpenClaim := { program := "ytfkoopimppkkfaa", sum := "fc49fdb2f33455d96e178b4798ad62b189ca6d9da9468d01a6d1a4420e0b7d55", func := "magneto/magnetolaw22.AngleTeeth", spec := "angleTeeth", named := ["math/bits.divideError", "math/bits.overflowError"], apart := false, narrowed := true }
def AngleTeethUptoSaid : Prop := angleTeethUptoRow.holds Try.pinned (OpenSpec.upto angleTeethSpec)

/-- 'magnetolaw22.AngleMonotone', WHERE WHAT IT READS IS OF BULK AT MOST 1048576: true; the input reads as it did. -/
def angleMonotoneUptoRow : OpenClaim := { program := "ytfkoopimppkkfaa", sum := "fc49fdb2f33455d96e178b4798ad62b189ca6d9da9468d01a6d1a4420e0b7d55", func := "magneto/magnetolaw22.AngleMonotone", spec := "angleMonotone", unfollowed := true, recurses := true, named := ["math/bits.divideError", "math/bits.overflowError"], apart := false, narrowed := true }
def AngleMonotoneUptoSaid : Prop := angleMonotoneUptoRow.holds Try.pinned (OpenSpec.upto angleMonotoneSpec)

/-- 'magnetolaw22.AngleAgrees', WHERE WHAT IT READS IS OF BULK AT MOST 1048576: true; the input reads as it did. -/
def angleAgreesUptoRow : OpenClaim := { program := "ytfkoopimppkkfaa", sum := "fc49fdb2f33455d96e178b4798ad62b189ca6d9da9468d01a6d1a4420e0b7d55", func := "magneto/magnetolaw22.AngleAgrees", spec := "angleAgrees", named := ["math/bits.divideError", "math/bits.overflowError"], apart := false, narrowed := true }
def AngleAgreesUptoSaid : Prop := angleAgreesUptoRow.holds Try.pinned (OpenSpec.upto angleAgreesSpec)

/-- 'magnetolaw22.AngleSpeeds', WHERE WHAT IT READS IS OF BULK AT MOST 1048576: true; the input reads as it did. -/
def angleSpeedsUptoRow : OpenClaim := { program := "ytfkoopimppkkfaa", sum := "fc49fdb2f33455d96e178b4798ad62b189ca6d9da9468d01a6d1a4420e0b7d55", func := "magneto/magnetolaw22.AngleSpeeds", spec := "angleSpeeds", named := ["math/bits.divideError", "math/bits.overflowError"], apart := false, narrowed := true }
def AngleSpeedsUptoSaid : Prop := angleSpeedsUptoRow.holds Try.pinned (OpenSpec.upto angleSpeedsSpec)

/-- 'magnetolaw22.AngleLast', WHERE WHAT IT READS IS OF BULK AT MOST 1048576: true; the input reads as it did. -/
def angleLastUptoRow : OpenClaim := { program := "ytfkoopimppkkfaa", sum := "fc49fdb2f33455d96e178b4798ad62b189ca6d9da9468d01a6d1a4420e0b7d55", func := "magneto/magnetolaw22.AngleLast", spec := "angleLast", named := ["math/bits.divideError", "math/bits.overflowError"], apart := false, narrowed := true }
def AngleLastUptoSaid : Prop := angleLastUptoRow.holds Try.pinned (OpenSpec.upto angleLastSpec)

end Rows
end Go.Proofs.Ytfkoopimppkkfaa
