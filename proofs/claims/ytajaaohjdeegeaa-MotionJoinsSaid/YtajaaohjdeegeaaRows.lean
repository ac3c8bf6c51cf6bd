/-
  No cell of these rows narrows 'for every input' (looked for: loops, veiled, ifaces, maps, wideKeys, modest, calm, conditions, laid).
  DERIVED. THE GIVEN ROWS OF THIS SEAT. 6 by the template 'for every input the law returns true; each argument reads behind the call as it read before'; 0 by the template 'total and deterministic' (their statements: YtajaaohjdeegeaaTotals.lean).
  GIVEN WITH THE SEED: the statements are not yours to turn. If you find one false, say at which input.
  Laid BY PROGRAM, IN A SANDBOX (cutbox-rows.mjs): the forced cells as the released guide's own fill.sh prints them over the translation b65a1c2bd7944ce6… (all of the seat's roots in one cut). By AI agents, Wed Nov 11 2026. No macro, syntax, notation, axiom, sorry.
-/
import Derived.Test.YtajaaohjdeegeaaChecked
import GoSem.Claim
import GoSem.ClaimJoined
import GoSem.ClaimMapViews
import Derived.JoinedTies
import Derived.KernelRfl
namespace Go.Proofs.Ytajaaohjdeegeaa
/- THE CELL 'sum', in the pinned program and in every row, IS THE sha256 OF THE DUMP (.gsa) THAT YtajaaohjdeegeaaProg.lean LOADS. Nothing in Lean hashes anything: it is a label: what it is worth is what the hold of that sum in a sandbox is worth. -/
noncomputable def Try.pinned : Pinned := { name := "ytajaaohjdeegeaa", sum := "b65a1c2bd7944ce6d99cd53b1781ab72f09db047f1c514b0d2eba0dfb6610380", checked := Try.checked }
namespace Rows
def none {H : Type} : Left H := { results := [], args := [] }

/-- 'magnetolaw17.MotionTimes': WHATEVER THE INPUT: true; the input reads as it did. -/
def motionTimesSpec : ChangeSpec := { name := "motionTimes", fn := fun _ => fun
  | [d1, d2] => { results := [.lit (.bool true)], args := [d1, d2] }
  | _ => none }
def motionTimesRow : OpenClaim := { program := "ytajaaohjdeegeaa", sum := "b65a1c2bd7944ce6d99cd53b1781ab72f09db047f1c514b0d2eba0dfb6610380", func := "magneto/magnetolaw17.MotionTimes", spec := "motionTimes", named := ["math/bits.divideError", "math/bits.overflowError"], apart := false }
def MotionTimesSaid : Prop := motionTimesRow.holds Try.pinned (OpenSpec.ofChange motionTimesSpec)

/-- ITS FALSE NEIGHBOUR: 'it returns false'. Refute it at one input. -/
def motionTimesWrong : ChangeSpec := { name := "motionTimes", fn := fun _ => fun
  | [d1, d2] => { results := [.lit (.bool false)], args := [d1, d2] }
  | _ => none }
def MotionTimesWrongFalsely : Prop := motionTimesRow.holds Try.pinned (OpenSpec.ofChange motionTimesWrong)

/-- 'magnetolaw17.MotionFirst': WHATEVER THE INPUT: true; the input reads as it did. -/
def motionFirstSpec : ChangeSpec := { name := "motionFirst", fn := fun _ => fun
  | [d1, d2, d3] => { results := [.lit (.bool true)], args := [d1, d2, d3] }
  | _ => none }
def motionFirstRow : OpenClaim := { program := "ytajaaohjdeegeaa", sum := "b65a1c2bd7944ce6d99cd53b1781ab72f09db047f1c514b0d2eba0dfb6610380", func := "magneto/magnetolaw17.MotionFirst", spec := "motionFirst", named := ["math/bits.divideError", "math/bits.overflowError"], apart := false }
def MotionFirstSaid : Prop := motionFirstRow.holds Try.pinned (OpenSpec.ofChange motionFirstSpec)

/-- ITS FALSE NEIGHBOUR: 'it returns false'. Refute it at one input. -/
def motionFirstWrong : ChangeSpec := { name := "motionFirst", fn := fun _ => fun
  | [d1, d2, d3] => { results := [.lit (.bool false)], args := [d1, d2, d3] }
  | _ => none }
def MotionFirstWrongFalsely : Prop := motionFirstRow.holds Try.pinned (OpenSpec.ofChange motionFirstWrong)

/-- 'magnetolaw17.MotionTurns': WHATEVER THE INPUT: true; the input reads as it did. -/
def motionTurnsSpec : ChangeSpec := { name := "motionTurns", fn := fun _ => fun
  | [d1, d2] => { results := [.lit (.bool true)], args := [d1, d2] }
  | _ => none }
def motionTurnsRow : OpenClaim := { program := "ytajaaohjdeegeaa", sum := "b65a1c2bd7944ce6d99cd53b1781ab72f09db047f1c514b0d2eba0dfb6610380", func := "magneto/magnetolaw17.MotionTurns", spec := "motionTurns", named := ["math/bits.divideError", "math/bits.overflowError"], apart := false }
def MotionTurnsSaid : Prop := motionTurnsRow.holds Try.pinned (OpenSpec.ofChange motionTurnsSpec)

/-- ITS FALSE NEIGHBOUR: 'it returns false'. Refute it at one input. -/
def motionTurnsWrong : ChangeSpec := { name := "motionTurns", fn := fun _ => fun
  | [d1, d2] => { results := [.lit (.bool false)], args := [d1, d2] }
  | _ => none }
def MotionTurnsWrongFalsely : Prop := motionTurnsRow.holds Try.pinned (OpenSpec.ofChange motionTurnsWrong)

/-- 'magnetolaw17.MotionForward': WHATEVER THE INPUT: true; the input reads as it did. -/
def motionForwardSpec : ChangeSpec := { name := "motionForward", fn := fun _ => fun
  | [d1, d2, d3] => { results := [.lit (.bool true)], args := [d1, d2, d3] }
  | _ => none }
def motionForwardRow : OpenClaim := { program := "ytajaaohjdeegeaa", sum := "b65a1c2bd7944ce6d99cd53b1781ab72f09db047f1c514b0d2eba0dfb6610380", func := "magneto/magnetolaw17.MotionForward", spec := "motionForward", named := ["math/bits.divideError", "math/bits.overflowError"], apart := false }
def MotionForwardSaid : Prop := motionForwardRow.holds Try.pinned (OpenSpec.ofChange motionForwardSpec)

/-- ITS FALSE NEIGHBOUR: 'it returns false'. Refute it at one input. -/
def motionForwardWrong : ChangeSpec := { name := "motionForward", fn := fun _ => fun
  | [d1, d2, d3] => { results := [.lit (.bool false)], args := [d1, d2, d3] }
  | _ => none }
def MotionForwardWrongFalsely : Prop := motionForwardRow.holds Try.pinned (OpenSpec.ofChange motionForwardWrong)

/-- 'magnetolaw17.MotionPositions': WHATEVER THE INPUT: true; the input reads as it did. -/
def motionPositionsSpec : ChangeSpec := { name := "motionPositions", fn := fun _ => fun
  | [d1, d2] => { results := [.lit (.bool true)], args := [d1, d2] }
  | _ => none }
def motionPositionsRow : OpenClaim := { program := "ytajaaohjdeegeaa", sum := "b65a1c2bd7944ce6d99cd53b1781ab72f09db047f1c514b0d2eba0dfb6610380", func := "magneto/magnetolaw17.MotionPositions", spec := "motionPositions", named := ["math/bits.divideError", "math/bits.overflowError"], apart := false }
def MotionPositionsSaid : Prop := motionPositionsRow.holds Try.pinned (OpenSpec.ofChange motionPositionsSpec)

/-- ITS FALSE NEIGHBOUR: 'it returns false'. Refute it at one input. -/
def motionPositionsWrong : ChangeSpec := { name := "motionPositions", fn := fun _ => fun
  | [d1, d2] => { results := [.lit (.bool false)], args := [d1, d2] }
  | _ => none }
def MotionPositionsWrongFalsely : Prop := motionPositionsRow.holds Try.pinned (OpenSpec.ofChange motionPositionsWrong)

/-- 'magnetolaw17.MotionJoins': WHATEVER THE INPUT: true; the input reads as it did. -/
def motionJoinsSpec : ChangeSpec := { name := "motionJoins", fn := fun _ => fun
  | [d1, d2, d3, d4] => { results := [.lit (.bool true)], args := [d1, d2, d3, d4] }
  | _ => none }
def motionJoinsRow : OpenClaim := { program := "ytajaaohjdeegeaa", sum := "b65a1c2bd7944ce6d99cd53b1781ab72f09db047f1c514b0d2eba0dfb6610380", func := "magneto/magnetolaw17.MotionJoins", spec := "motionJoins", named := ["math/bits.divideError", "math/bits.overflowError"], apart := false }
def MotionJoinsSaid : Prop := motionJoinsRow.holds Try.pinned (OpenSpec.ofChange motionJoinsSpec)

/-- ITS FALSE NEIGHBOUR: 'it returns false'. Refute it at one input. -/
def motionJoinsWrong : ChangeSpec := { name := "motionJoins", fn := fun _ => fun
  | [d1, d2, d3, d4] => { results := [.lit (.bool false)], args := [d1, d2, d3, d4] }
  | _ => none }
def MotionJoinsWrongFalsely : Prop := motionJoinsRow.holds Try.pinned (OpenSpec.ofChange motionJoinsWrong)

/- THE SECOND FORM. 'bulk': how many values and letters a reading holds, each counted each time it is reached (what is shared counts as often as it is met; a slice's spare places count too). A statement '..UptoSaid' is the law's where the arguments, and the package variables that the reading takes, are together of bulk at most 1048576: NARROWER than '..Said'. Prove '..Said' where nothing that the law and all that it calls make is longer than what came in: it says more and counts as full. Else prove '..UptoSaid'. A law counts once. -/
mutual
def uptoBulk {H : Type} : DataW H → Nat
  | .lit (.string bytes) => bytes.length + 1
  | .lit _ => 1
  | .nil => 1
  | .ptr d => uptoBulk d + 1
  | .slice elems spare => uptoBulkAll elems + uptoBulkAll spare + 1
  | .agg parts => uptoBulkAll parts + 1
  | .iface _ d => uptoBulk d + 1
  | .map entries => uptoBulkEntries entries + 1
  | .held _ => 1
def uptoBulkAll {H : Type} : List (DataW H) → Nat
  | [] => 0
  | d :: r => uptoBulk d + uptoBulkAll r
def uptoBulkEntries {H : Type} : List (Lit × DataW H) → Nat
  | [] => 0
  | x :: r => uptoBulkEntry x + uptoBulkEntries r
def uptoBulkEntry {H : Type} : Lit × DataW H → Nat
  | (.string bytes, d) => bytes.length + uptoBulk d + 1
  | (_, d) => uptoBulk d + 1
 end
def uptoSmall : (H : Type) → List (DataW H) → Bool := fun _ ds => decide (uptoBulkAll ds ≤ 1048576)
def OpenSpec.upto (s : _root_.Go.ChangeSpec) : _root_.Go.OpenSpec := { _root_.Go.OpenSpec.ofChange s with cond := some uptoSmall }

/-- 'magnetolaw17.MotionTimes', WHERE WHAT IT READS IS OF BULK AT MOST 1048576: true; the input reads as it did. -/
def motionTimesUptoRow : OpenClaim := { program := "ytajaaohjdeegeaa", sum := "b65a1c2bd7944ce6d99cd53b1781ab72f09db047f1c514b0d2eba0dfb6610380", func := "magneto/magnetolaw17.MotionTimes", spec := "motionTimes", named := ["math/bits.divideError", "math/bits.overflowError"], apart := false, narrowed := true }
def MotionTimesUptoSaid : Prop := motionTimesUptoRow.holds Try.pinned (OpenSpec.upto motionTimesSpec)

/-- 'magnetolaw17.MotionFirst', WHERE WHAT IT READS IS OF BULK AT MOST 1048576: true; the input reads as it did. -/
def motionFirstUptoRow : OpenClaim := { program := "ytajaaohjdeegeaa", sum := "b65a1c2bd7944ce6d99cd53b1781ab72f09db047f1c514b0d2eba0dfb6610380", func := "magneto/magnetolaw17.MotionFirst", spec := "motionFirst", named := ["math/bits.divideError", "math/bits.overflowError"], apart := false, narrowed := true }
def MotionFirstUptoSaid : Prop := motionFirstUptoRow.holds Try.pinned (OpenSpec.upto motionFirstSpec)

/-- 'magnetolaw17.MotionTurns', WHERE WHAT IT READS IS OF BULK AT MOST 1048576: true; the input reads as it did. -/
def motionTurnsUptoRow : OpenClaim := { program := "ytajaaohjdeegeaa", sum := "b65a1c2bd7944ce6d99cd53b1781ab72f09db047f1c514b0d2eba0dfb6610380", func := "magneto/magnetolaw17.MotionTurns", spec := "motionTurns", named := ["math/bits.divideError", "math/bits.overflowError"], apart := false, narrowed := true }
def MotionTurnsUptoSaid : Prop := motionTurnsUptoRow.holds Try.pinned (OpenSpec.upto motionTurnsSpec)

/-- 'magnetolaw17.MotionForward', WHERE WHAT IT READS IS OF BULK AT MOST 1048576: true; the input reads as it did. -/
def motionForwardUptoRow : OpenClaim := { program := "ytajaaohjdeegeaa", sum := "b65a1c2bd7944ce6d99cd53b1781ab72f09db047f1c514b0d2eba0dfb6610380", func := "magneto/magnetolaw17.MotionForward", spec := "motionForward", named := ["math/bits.divideError", "math/bits.overflowError"], apart := false, narrowed := true }
def MotionForwardUptoSaid : Prop := motionForwardUptoRow.holds Try.pinned (OpenSpec.upto motionForwardSpec)

/-- 'magnetolaw17.MotionPositions', WHERE WHAT IT READS IS OF BULK AT MOST 1048576: true; the input reads as it did. -/
def motionPositionsUptoRow : OpenClaim := { program := "ytajaaohjdeegeaa", sum := "b65a1c2bd7944ce6d99cd53b1781ab72f09db047f1c514b0d2eba0dfb6610380", func := "magneto/magnetolaw17.MotionPositions", spec := "motionPositions", named := ["math/bits.divideError", "math/bits.overflowError"], apart := false, narrowed := true }
def MotionPositionsUptoSaid : Prop := motionPositionsUptoRow.holds Try.pinned (OpenSpec.upto motionPositionsSpec)

/-- 'magnetolaw17.MotionJoins', WHERE WHAT IT READS IS OF BULK AT MOST 1048576: true; the input reads as it did. -/
def motionJoinsUptoRow : OpenClaim := { program := "ytajaaohjdeegeaa", sum := "b65a1c2bd7944ce6d99cd53b1781ab72f09db047f1c514b0d2eba0dfb6610380", func := "magneto/magnetolaw17.MotionJoins", spec := "motionJoins", named := ["math/bits.divideError", "math/bits.overflowError"], apart := false, narrowed := true }
def MotionJoinsUptoSaid : Prop := motionJoinsUptoRow.holds Try.pinned (OpenSpec.upto motionJoinsSpec)

end Rows
end Go.Proofs.Ytajaaohjdeegeaa
