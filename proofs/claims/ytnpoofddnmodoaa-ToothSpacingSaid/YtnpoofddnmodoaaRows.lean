/-
  No cell of these rows narrows 'for every input' (looked for: loops, veiled, ifaces, maps, wideKeys, modest, calm, conditions, laid).
  DERIVED. THE GIVEN ROWS OF THIS SEAT. 7 by the template 'for every input the law returns true; each argument reads behind the call as it read before'; 0 by the template 'total and deterministic' (their statements: YtnpoofddnmodoaaTotals.lean).
  GIVEN WITH THE SEED: the statements are not yours to turn. If you find one false, say at which input.
  Laid BY PROGRAM, IN A SANDBOX (cutbox-rows.mjs): the forced cells as the released guide's own fill.sh prints them over the translation e917ae146e76e2a2… (all of the seat's roots in one cut). By AI agents, Wed Nov 11 2026. No macro, syntax, notation, axiom, sorry.
-/
import Derived.Test.YtnpoofddnmodoaaChecked
import GoSem.Claim
import GoSem.ClaimJoined
import GoSem.ClaimMapViews
import Derived.JoinedTies
import Derived.KernelRfl
namespace Go.Proofs.Ytnpoofddnmodoaa
/- THE CELL 'sum', in the pinned program and in every row, IS THE sha256 OF THE DUMP (.gsa) THAT YtnpoofddnmodoaaProg.lean LOADS. Nothing in Lean hashes anything: it is a label: what it is worth is what the hold of that sum in a sandbox is worth. -/
noncomputable def Try.pinned : Pinned := { name := "ytnpoofddnmodoaa", sum := "e917ae146e76e2a23f628f59202f6ca773eb6424481f2d8a5897b12dbe17b744", checked := Try.checked }
namespace Rows
def none {H : Type} : Left H := { results := [], args := [] }

/-- 'magnetolaw19.ToothSteps': WHATEVER THE INPUT: true; the input reads as it did. -/
def toothStepsSpec : ChangeSpec := { name := "toothSteps", fn := fun _ => fun
  | [d1, d2] => { results := [.lit (.bool true)], args := [d1, d2] }
  | _ => none }
def toothStepsRow : OpenClaim := { program := "ytnpoofddnmodoaa", sum := "e917ae146e76e2a23f628f59202f6ca773eb6424481f2d8a5897b12dbe17b744", func := "magneto/magnetolaw19.ToothSteps", spec := "toothSteps", apart := false }
def ToothStepsSaid : Prop := toothStepsRow.holds Try.pinned (OpenSpec.ofChange toothStepsSpec)

/-- ITS FALSE NEIGHBOUR: 'it returns false'. Refute it at one input. -/
def toothStepsWrong : ChangeSpec := { name := "toothSteps", fn := fun _ => fun
  | [d1, d2] => { results := [.lit (.bool false)], args := [d1, d2] }
  | _ => none }
def ToothStepsWrongFalsely : Prop := toothStepsRow.holds Try.pinned (OpenSpec.ofChange toothStepsWrong)

/-- 'magnetolaw19.ToothRuns': WHATEVER THE INPUT: true; the input reads as it did. -/
def toothRunsSpec : ChangeSpec := { name := "toothRuns", fn := fun _ => fun
  | [d] => { results := [.lit (.bool true)], args := [d] }
  | _ => none }
def toothRunsRow : OpenClaim := { program := "ytnpoofddnmodoaa", sum := "e917ae146e76e2a23f628f59202f6ca773eb6424481f2d8a5897b12dbe17b744", func := "magneto/magnetolaw19.ToothRuns", spec := "toothRuns", apart := false }
def ToothRunsSaid : Prop := toothRunsRow.holds Try.pinned (OpenSpec.ofChange toothRunsSpec)

/-- ITS FALSE NEIGHBOUR: 'it returns false'. Refute it at one input. -/
def toothRunsWrong : ChangeSpec := { name := "toothRuns", fn := fun _ => fun
  | [d] => { results := [.lit (.bool false)], args := [d] }
  | _ => none }
def ToothRunsWrongFalsely : Prop := toothRunsRow.holds Try.pinned (OpenSpec.ofChange toothRunsWrong)

/-- 'magnetolaw19.ToothSpacing': WHATEVER THE INPUT: true; the input reads as it did. -/
def toothSpacingSpec : ChangeSpec := { name := "toothSpacing", fn := fun _ => fun
  | [d] => { results := [.lit (.bool true)], args := [d] }
  | _ => none }
def toothSpacingRow : OpenClaim := { program := "ytnpoofddnmodoaa", sum := "e917ae146e76e2a23f628f59202f6ca773eb6424481f2d8a5897b12dbe17b744", func := "magneto/magnetolaw19.ToothSpacing", spec := "toothSpacing", unfollowed := true, recurses := true, apart := false }
def ToothSpacingSaid : Prop := toothSpacingRow.holds Try.pinned (OpenSpec.ofChange toothSpacingSpec)

/-- ITS FALSE NEIGHBOUR: 'it returns false'. Refute it at one input. -/
def toothSpacingWrong : ChangeSpec := { name := "toothSpacing", fn := fun _ => fun
  | [d] => { results := [.lit (.bool false)], args := [d] }
  | _ => none }
def ToothSpacingWrongFalsely : Prop := toothSpacingRow.holds Try.pinned (OpenSpec.ofChange toothSpacingWrong)

/-- 'magnetolaw19.ToothAgain': WHATEVER THE INPUT: true; the input reads as it did. -/
def toothAgainSpec : ChangeSpec := { name := "toothAgain", fn := fun _ => fun
  | [d1, d2] => { results := [.lit (.bool true)], args := [d1, d2] }
  | _ => none }
def toothAgainRow : OpenClaim := { program := "ytnpoofddnmodoaa", sum := "e917ae146e76e2a23f628f59202f6ca773eb6424481f2d8a5897b12dbe17b744", func := "magneto/magnetolaw19.ToothAgain", spec := "toothAgain", apart := false }
def ToothAgainSaid : Prop := toothAgainRow.holds Try.pinned (OpenSpec.ofChange toothAgainSpec)

/-- ITS FALSE NEIGHBOUR: 'it returns false'. Refute it at one input. -/
def toothAgainWrong : ChangeSpec := { name := "toothAgain", fn := fun _ => fun
  | [d1, d2] => { results := [.lit (.bool false)], args := [d1, d2] }
  | _ => none }
def ToothAgainWrongFalsely : Prop := toothAgainRow.holds Try.pinned (OpenSpec.ofChange toothAgainWrong)

/-- 'magnetolaw19.ToothStates': WHATEVER THE INPUT: true; the input reads as it did. -/
def toothStatesSpec : ChangeSpec := { name := "toothStates", fn := fun _ => fun
  | [d] => { results := [.lit (.bool true)], args := [d] }
  | _ => none }
def toothStatesRow : OpenClaim := { program := "ytnpoofddnmodoaa", sum := "e917ae146e76e2a23f628f59202f6ca773eb6424481f2d8a5897b12dbe17b744", func := "magneto/magnetolaw19.ToothStates", spec := "toothStates", apart := false }
def ToothStatesSaid : Prop := toothStatesRow.holds Try.pinned (OpenSpec.ofChange toothStatesSpec)

/-- ITS FALSE NEIGHBOUR: 'it returns false'. Refute it at one input. -/
def toothStatesWrong : ChangeSpec := { name := "toothStates", fn := fun _ => fun
  | [d] => { results := [.lit (.bool false)], args := [d] }
  | _ => none }
def ToothStatesWrongFalsely : Prop := toothStatesRow.holds Try.pinned (OpenSpec.ofChange toothStatesWrong)

/-- 'magnetolaw19.ToothResets': WHATEVER THE INPUT: true; the input reads as it did. -/
def toothResetsSpec : ChangeSpec := { name := "toothResets", fn := fun _ => fun
  | [d1, d2] => { results := [.lit (.bool true)], args := [d1, d2] }
  | _ => none }
def toothResetsRow : OpenClaim := { program := "ytnpoofddnmodoaa", sum := "e917ae146e76e2a23f628f59202f6ca773eb6424481f2d8a5897b12dbe17b744", func := "magneto/magnetolaw19.ToothResets", spec := "toothResets", apart := false }
def ToothResetsSaid : Prop := toothResetsRow.holds Try.pinned (OpenSpec.ofChange toothResetsSpec)

/-- ITS FALSE NEIGHBOUR: 'it returns false'. Refute it at one input. -/
def toothResetsWrong : ChangeSpec := { name := "toothResets", fn := fun _ => fun
  | [d1, d2] => { results := [.lit (.bool false)], args := [d1, d2] }
  | _ => none }
def ToothResetsWrongFalsely : Prop := toothResetsRow.holds Try.pinned (OpenSpec.ofChange toothResetsWrong)

/-- 'magnetolaw19.ToothMoves': WHATEVER THE INPUT: true; the input reads as it did. -/
def toothMovesSpec : ChangeSpec := { name := "toothMoves", fn := fun _ => fun
  | [d1, d2] => { results := [.lit (.bool true)], args := [d1, d2] }
  | _ => none }
def toothMovesRow : OpenClaim := { program := "ytnpoofddnmodoaa", sum := "e917ae146e76e2a23f628f59202f6ca773eb6424481f2d8a5897b12dbe17b744", func := "magneto/magnetolaw19.ToothMoves", spec := "toothMoves", apart := false }
def ToothMovesSaid : Prop := toothMovesRow.holds Try.pinned (OpenSpec.ofChange toothMovesSpec)

/-- ITS FALSE NEIGHBOUR: 'it returns false'. Refute it at one input. -/
def toothMovesWrong : ChangeSpec := { name := "toothMoves", fn := fun _ => fun
  | [d1, d2] => { results := [.lit (.bool false)], args := [d1, d2] }
  | _ => none }
def ToothMovesWrongFalsely : Prop := toothMovesRow.holds Try.pinned (OpenSpec.ofChange toothMovesWrong)

/- THE SECOND FORM. 'bulk': how many values and letters a reading holds, each counted each time it is reached (what is shared counts as often as it is met; a slice's spare places count too). A statement '..UptoSaid' is the law's where the arguments, and the package variables that the reading takes, are together of bulk at most 1048576: NARROWER than '..Said'. Prove '..Said' where nothing that the law and all that it calls make is longer than what came in: it says more and counts as full. Else prove '..UptoSaid'. A law counts once. -/
mutual
def uptoBulk {H : Type} : DataW H → Nat
  | .lit (.string bytes) => bytes.length + 1
  | .lit _ => 1
  | .nil => 1
  | .ptr d => uptoBulk d + 1
  | .slice elems spare => uptoBulkAll elems + uptoBulkAll spare + 1
  | .agg parts => uptoBulkAll parts + 1
  | .iface _ d => uptoBulk d + 1
  | .map entries => uptoBulkEntries entries + 1
  | .held _ => 1
def uptoBulkAll {H : Type} : List (DataW H) → Nat
  | [] => 0
  | d :: r => uptoBulk d + uptoBulkAll r
def uptoBulkEntries {H : Type} : List (Lit × DataW H) → Nat
  | [] => 0
  | x :: r => uptoBulkEntry x + uptoBulkEntries r
def uptoBulkEntry {H : Type} : Lit × DataW H → Nat
  | (.string bytes, d) => bytes.length + uptoBulk d + 1
  | (_, d) => uptoBulk d + 1
 end
def uptoSmall : (H : Type) → List (DataW H) → Bool := fun _ ds => decide (uptoBulkAll ds ≤ 1048576)
def OpenSpec.upto (s : _root_.Go.ChangeSpec) : _root_.Go.OpenSpec := { _root_.Go.OpenSpec.ofChange s with cond := some uptoSmall }

/-- 'magnetolaw19.ToothSteps', WHERE WHAT IT READS IS OF BULK AT MOST 1048576: true; the input reads as it did. -/
def toothStepsUptoRow : OpenClaim := { program := "ytnpoofddnmodoaa", sum := "e917ae146e76e2a23f628f59202f6ca773eb6424481f2d8a5897b12dbe17b744", func := "magneto/magnetolaw19.ToothSteps", spec := "toothSteps", apart := false, narrowed := true }
def ToothStepsUptoSaid : Prop := toothStepsUptoRow.holds Try.pinned (OpenSpec.upto toothStepsSpec)

/-- 'magnetolaw19.ToothRuns', WHERE WHAT IT READS IS OF BULK AT MOST 1048576: true; the input reads as it did. -/
def toothRunsUptoRow : OpenClaim := { program := "ytnpoofddnmodoaa", sum := "e917ae146e76e2a23f628f59202f6ca773eb6424481f2d8a5897b12dbe17b744", func := "magneto/magnetolaw19.ToothRuns", spec := "toothRuns", apart := false, narrowed := true }
def ToothRunsUptoSaid : Prop := toothRunsUptoRow.holds Try.pinned (OpenSpec.upto toothRunsSpec)

/-- 'magnetolaw19.ToothSpacing', WHERE WHAT IT READS IS OF BULK AT MOST 1048576: true; the input reads as it did. -/
def toothSpacingUptoRow : OpenClaim := { program := "ytnpoofddnmodoaa", sum := "e917ae146e76e2a23f628f59202f6ca773eb6424481f2d8a5897b12dbe17b744", func := "magneto/magnetolaw19.ToothSpacing", spec := "toothSpacing", unfollowed := true, recurses := true, apart := false, narrowed := true }
def ToothSpacingUptoSaid : Prop := toothSpacingUptoRow.holds Try.pinned (OpenSpec.upto toothSpacingSpec)

/-- 'magnetolaw19.ToothAgain', WHERE WHAT IT READS IS OF BULK AT MOST 1048576: true; the input reads as it did. -/
def toothAgainUptoRow : OpenClaim := { program := "ytnpoofddnmodoaa", sum := "e917ae146e76e2a23f628f59202f6ca773eb6424481f2d8a5897b12dbe17b744", func := "magneto/magnetolaw19.ToothAgain", spec := "toothAgain", apart := false, narrowed := true }
def ToothAgainUptoSaid : Prop := toothAgainUptoRow.holds Try.pinned (OpenSpec.upto toothAgainSpec)

/-- 'magnetolaw19.ToothStates', WHERE WHAT IT READS IS OF BULK AT MOST 1048576: true; the input reads as it did. -/
def toothStatesUptoRow : OpenClaim := { program := "ytnpoofddnmodoaa", sum := "e917ae146e76e2a23f628f59202f6ca773eb6424481f2d8a5897b12dbe17b744", func := "magneto/magnetolaw19.ToothStates", spec := "toothStates", apart := false, narrowed := true }
def ToothStatesUptoSaid : Prop := toothStatesUptoRow.holds Try.pinned (OpenSpec.upto toothStatesSpec)

/-- 'magnetolaw19.ToothResets', WHERE WHAT IT READS IS OF BULK AT MOST 1048576: true; the input reads as it did. -/
def toothResetsUptoRow : OpenClaim := { program := "ytnpoofddnmodoaa", sum := "e917ae146e76e2a23f628f59202f6ca773eb6424481f2d8a5897b12dbe17b744", func := "magneto/magnetolaw19.ToothResets", spec := "toothResets", apart := false, narrowed := true }
def ToothResetsUptoSaid : Prop := toothResetsUptoRow.holds Try.pinned (OpenSpec.upto toothResetsSpec)

/-- 'magnetolaw19.ToothMoves', WHERE WHAT IT READS IS OF BULK AT MOST 1048576: true; the input reads as it did. -/
def toothMovesUptoRow : OpenClaim := { program := "ytnpoofddnmodoaa", sum := "e917ae146e76e2a23f628f59202f6ca773eb6424481f2d8a5897b12dbe17b744", func := "magneto/magnetolaw19.ToothMoves", spec := "toothMoves", apart := false, narrowed := true }
def ToothMovesUptoSaid : Prop := toothMovesUptoRow.holds Try.pinned (OpenSpec.upto toothMovesSpec)

end Rows
end Go.Proofs.Ytnpoofddnmodoaa
