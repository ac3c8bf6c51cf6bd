/-
  No cell of these rows narrows 'for every input' (looked for: loops, veiled, ifaces, maps, wideKeys, modest, calm, conditions, laid).
  DERIVED. THE GIVEN ROWS OF THIS SEAT. 10 by the template 'for every input the law returns true; each argument reads behind the call as it read before'; 0 by the template 'total and deterministic' (their statements: YtoflhcdhgkbdcaaTotals.lean).
  GIVEN WITH THE SEED: the statements are not yours to turn. If you find one false, say at which input.
  Laid BY PROGRAM, IN A SANDBOX (cutbox-rows.mjs): the forced cells as the released guide's own fill.sh prints them over the translation 7cb706380c9b4dc9… (all of the seat's roots in one cut). By AI agents, Wed Nov 11 2026. No macro, syntax, notation, axiom, sorry.
-/
import Derived.Test.YtoflhcdhgkbdcaaChecked
import GoSem.Claim
import GoSem.ClaimJoined
import GoSem.ClaimMapViews
import Derived.JoinedTies
import Derived.KernelRfl
namespace Go.Proofs.Ytoflhcdhgkbdcaa
/- THE CELL 'sum', in the pinned program and in every row, IS THE sha256 OF THE DUMP (.gsa) THAT YtoflhcdhgkbdcaaProg.lean LOADS. Nothing in Lean hashes anything: it is a label: what it is worth is what the hold of that sum in a sandbox is worth. -/
noncomputable def Try.pinned : Pinned := { name := "ytoflhcdhgkbdcaa", sum := "7cb706380c9b4dc96a4e191ba672af82c1c0cf80dc732b3932eade922b0bef1d", checked := Try.checked }
namespace Rows
def none {H : Type} : Left H := { results := [], args := [] }

/-- 'magnetolaw07.FilterLags': WHATEVER THE INPUT: true; the input reads as it did. -/
def filterLagsSpec : ChangeSpec := { name := "filterLags", fn := fun _ => fun
  | [d1, d2, d3] => { results := [.lit (.bool true)], args := [d1, d2, d3] }
  | _ => none }
def filterLagsRow : OpenClaim := { program := "ytoflhcdhgkbdcaa", sum := "7cb706380c9b4dc96a4e191ba672af82c1c0cf80dc732b3932eade922b0bef1d", func := "magneto/magnetolaw07.FilterLags", spec := "filterLags", named := ["math/bits.divideError", "math/bits.overflowError"], apart := false }
def FilterLagsSaid : Prop := filterLagsRow.holds Try.pinned (OpenSpec.ofChange filterLagsSpec)

/-- ITS FALSE NEIGHBOUR: 'it returns false'. Refute it at one input. -/
def filterLagsWrong : ChangeSpec := { name := "filterLags", fn := fun _ => fun
  | [d1, d2, d3] => { results := [.lit (.bool false)], args := [d1, d2, d3] }
  | _ => none }
def FilterLagsWrongFalsely : Prop := filterLagsRow.holds Try.pinned (OpenSpec.ofChange filterLagsWrong)

/-- 'magnetolaw07.FilterReaches': WHATEVER THE INPUT: true; the input reads as it did. -/
def filterReachesSpec : ChangeSpec := { name := "filterReaches", fn := fun _ => fun
  | [d1, d2, d3] => { results := [.lit (.bool true)], args := [d1, d2, d3] }
  | _ => none }
def filterReachesRow : OpenClaim := { program := "ytoflhcdhgkbdcaa", sum := "7cb706380c9b4dc96a4e191ba672af82c1c0cf80dc732b3932eade922b0bef1d", func := "magneto/magnetolaw07.FilterReaches", spec := "filterReaches", named := ["math/bits.divideError", "math/bits.overflowError"], apart := false }
def FilterReachesSaid : Prop := filterReachesRow.holds Try.pinned (OpenSpec.ofChange filterReachesSpec)

/-- ITS FALSE NEIGHBOUR: 'it returns false'. Refute it at one input. -/
def filterReachesWrong : ChangeSpec := { name := "filterReaches", fn := fun _ => fun
  | [d1, d2, d3] => { results := [.lit (.bool false)], args := [d1, d2, d3] }
  | _ => none }
def FilterReachesWrongFalsely : Prop := filterReachesRow.holds Try.pinned (OpenSpec.ofChange filterReachesWrong)

/-- 'magnetolaw07.FilterRates': WHATEVER THE INPUT: true; the input reads as it did. -/
def filterRatesSpec : ChangeSpec := { name := "filterRates", fn := fun _ => fun
  | [d1, d2, d3, d4] => { results := [.lit (.bool true)], args := [d1, d2, d3, d4] }
  | _ => none }
def filterRatesRow : OpenClaim := { program := "ytoflhcdhgkbdcaa", sum := "7cb706380c9b4dc96a4e191ba672af82c1c0cf80dc732b3932eade922b0bef1d", func := "magneto/magnetolaw07.FilterRates", spec := "filterRates", named := ["math/bits.divideError", "math/bits.overflowError"], apart := false }
def FilterRatesSaid : Prop := filterRatesRow.holds Try.pinned (OpenSpec.ofChange filterRatesSpec)

/-- ITS FALSE NEIGHBOUR: 'it returns false'. Refute it at one input. -/
def filterRatesWrong : ChangeSpec := { name := "filterRates", fn := fun _ => fun
  | [d1, d2, d3, d4] => { results := [.lit (.bool false)], args := [d1, d2, d3, d4] }
  | _ => none }
def FilterRatesWrongFalsely : Prop := filterRatesRow.holds Try.pinned (OpenSpec.ofChange filterRatesWrong)

/-- 'magnetolaw07.FilterControls': WHATEVER THE INPUT: true; the input reads as it did. -/
def filterControlsSpec : ChangeSpec := { name := "filterControls", fn := fun _ => fun
  | [d1, d2, d3] => { results := [.lit (.bool true)], args := [d1, d2, d3] }
  | _ => none }
def filterControlsRow : OpenClaim := { program := "ytoflhcdhgkbdcaa", sum := "7cb706380c9b4dc96a4e191ba672af82c1c0cf80dc732b3932eade922b0bef1d", func := "magneto/magnetolaw07.FilterControls", spec := "filterControls", named := ["math/bits.divideError", "math/bits.overflowError"], apart := false }
def FilterControlsSaid : Prop := filterControlsRow.holds Try.pinned (OpenSpec.ofChange filterControlsSpec)

/-- ITS FALSE NEIGHBOUR: 'it returns false'. Refute it at one input. -/
def filterControlsWrong : ChangeSpec := { name := "filterControls", fn := fun _ => fun
  | [d1, d2, d3] => { results := [.lit (.bool false)], args := [d1, d2, d3] }
  | _ => none }
def FilterControlsWrongFalsely : Prop := filterControlsRow.holds Try.pinned (OpenSpec.ofChange filterControlsWrong)

/-- 'magnetolaw07.FilterWinds': WHATEVER THE INPUT: true; the input reads as it did. -/
def filterWindsSpec : ChangeSpec := { name := "filterWinds", fn := fun _ => fun
  | [d1, d2] => { results := [.lit (.bool true)], args := [d1, d2] }
  | _ => none }
def filterWindsRow : OpenClaim := { program := "ytoflhcdhgkbdcaa", sum := "7cb706380c9b4dc96a4e191ba672af82c1c0cf80dc732b3932eade922b0bef1d", func := "magneto/magnetolaw07.FilterWinds", spec := "filterWinds", named := ["math/bits.divideError", "math/bits.overflowError"], apart := false }
def FilterWindsSaid : Prop := filterWindsRow.holds Try.pinned (OpenSpec.ofChange filterWindsSpec)

/-- ITS FALSE NEIGHBOUR: 'it returns false'. Refute it at one input. -/
def filterWindsWrong : ChangeSpec := { name := "filterWinds", fn := fun _ => fun
  | [d1, d2] => { results := [.lit (.bool false)], args := [d1, d2] }
  | _ => none }
def FilterWindsWrongFalsely : Prop := filterWindsRow.holds Try.pinned (OpenSpec.ofChange filterWindsWrong)

/-- 'magnetolaw07.FilterHolds': WHATEVER THE INPUT: true; the input reads as it did. -/
def filterHoldsSpec : ChangeSpec := { name := "filterHolds", fn := fun _ => fun
  | [d1, d2, d3, d4] => { results := [.lit (.bool true)], args := [d1, d2, d3, d4] }
  | _ => none }
def filterHoldsRow : OpenClaim := { program := "ytoflhcdhgkbdcaa", sum := "7cb706380c9b4dc96a4e191ba672af82c1c0cf80dc732b3932eade922b0bef1d", func := "magneto/magnetolaw07.FilterHolds", spec := "filterHolds", named := ["math/bits.divideError", "math/bits.overflowError"], apart := false }
def FilterHoldsSaid : Prop := filterHoldsRow.holds Try.pinned (OpenSpec.ofChange filterHoldsSpec)

/-- ITS FALSE NEIGHBOUR: 'it returns false'. Refute it at one input. -/
def filterHoldsWrong : ChangeSpec := { name := "filterHolds", fn := fun _ => fun
  | [d1, d2, d3, d4] => { results := [.lit (.bool false)], args := [d1, d2, d3, d4] }
  | _ => none }
def FilterHoldsWrongFalsely : Prop := filterHoldsRow.holds Try.pinned (OpenSpec.ofChange filterHoldsWrong)

/-- 'magnetolaw07.FilterBounces': WHATEVER THE INPUT: true; the input reads as it did. -/
def filterBouncesSpec : ChangeSpec := { name := "filterBounces", fn := fun _ => fun
  | [d1, d2, d3, d4, d5] => { results := [.lit (.bool true)], args := [d1, d2, d3, d4, d5] }
  | _ => none }
def filterBouncesRow : OpenClaim := { program := "ytoflhcdhgkbdcaa", sum := "7cb706380c9b4dc96a4e191ba672af82c1c0cf80dc732b3932eade922b0bef1d", func := "magneto/magnetolaw07.FilterBounces", spec := "filterBounces", unfollowed := true, recurses := true, named := ["math/bits.divideError", "math/bits.overflowError"], apart := false }
def FilterBouncesSaid : Prop := filterBouncesRow.holds Try.pinned (OpenSpec.ofChange filterBouncesSpec)

/-- ITS FALSE NEIGHBOUR: 'it returns false'. Refute it at one input. -/
def filterBouncesWrong : ChangeSpec := { name := "filterBounces", fn := fun _ => fun
  | [d1, d2, d3, d4, d5] => { results := [.lit (.bool false)], args := [d1, d2, d3, d4, d5] }
  | _ => none }
def FilterBouncesWrongFalsely : Prop := filterBouncesRow.holds Try.pinned (OpenSpec.ofChange filterBouncesWrong)

/-- 'magnetolaw07.FilterDebounces': WHATEVER THE INPUT: true; the input reads as it did. -/
def filterDebouncesSpec : ChangeSpec := { name := "filterDebounces", fn := fun _ => fun
  | [d1, d2, d3] => { results := [.lit (.bool true)], args := [d1, d2, d3] }
  | _ => none }
def filterDebouncesRow : OpenClaim := { program := "ytoflhcdhgkbdcaa", sum := "7cb706380c9b4dc96a4e191ba672af82c1c0cf80dc732b3932eade922b0bef1d", func := "magneto/magnetolaw07.FilterDebounces", spec := "filterDebounces", unfollowed := true, recurses := true, named := ["math/bits.divideError", "math/bits.overflowError"], apart := false }
def FilterDebouncesSaid : Prop := filterDebouncesRow.holds Try.pinned (OpenSpec.ofChange filterDebouncesSpec)

/-- ITS FALSE NEIGHBOUR: 'it returns false'. Refute it at one input. -/
def filterDebouncesWrong : ChangeSpec := { name := "filterDebounces", fn := fun _ => fun
  | [d1, d2, d3] => { results := [.lit (.bool false)], args := [d1, d2, d3] }
  | _ => none }
def FilterDebouncesWrongFalsely : Prop := filterDebouncesRow.holds Try.pinned (OpenSpec.ofChange filterDebouncesWrong)

/-- 'magnetolaw07.FilterWindows': WHATEVER THE INPUT: true; the input reads as it did. -/
def filterWindowsSpec : ChangeSpec := { name := "filterWindows", fn := fun _ => fun
  | [d1, d2] => { results := [.lit (.bool true)], args := [d1, d2] }
  | _ => none }
def filterWindowsRow : OpenClaim := { program := "ytoflhcdhgkbdcaa", sum := "7cb706380c9b4dc96a4e191ba672af82c1c0cf80dc732b3932eade922b0bef1d", func := "magneto/magnetolaw07.FilterWindows", spec := "filterWindows", named := ["math/bits.divideError", "math/bits.overflowError"], apart := false }
def FilterWindowsSaid : Prop := filterWindowsRow.holds Try.pinned (OpenSpec.ofChange filterWindowsSpec)

/-- ITS FALSE NEIGHBOUR: 'it returns false'. Refute it at one input. -/
def filterWindowsWrong : ChangeSpec := { name := "filterWindows", fn := fun _ => fun
  | [d1, d2] => { results := [.lit (.bool false)], args := [d1, d2] }
  | _ => none }
def FilterWindowsWrongFalsely : Prop := filterWindowsRow.holds Try.pinned (OpenSpec.ofChange filterWindowsWrong)

/-- 'magnetolaw07.FilterMiddles': WHATEVER THE INPUT: true; the input reads as it did. -/
def filterMiddlesSpec : ChangeSpec := { name := "filterMiddles", fn := fun _ => fun
  | [d1, d2] => { results := [.lit (.bool true)], args := [d1, d2] }
  | _ => none }
def filterMiddlesRow : OpenClaim := { program := "ytoflhcdhgkbdcaa", sum := "7cb706380c9b4dc96a4e191ba672af82c1c0cf80dc732b3932eade922b0bef1d", func := "magneto/magnetolaw07.FilterMiddles", spec := "filterMiddles", named := ["math/bits.divideError", "math/bits.overflowError"], apart := false }
def FilterMiddlesSaid : Prop := filterMiddlesRow.holds Try.pinned (OpenSpec.ofChange filterMiddlesSpec)

/-- ITS FALSE NEIGHBOUR: 'it returns false'. Refute it at one input. -/
def filterMiddlesWrong : ChangeSpec := { name := "filterMiddles", fn := fun _ => fun
  | [d1, d2] => { results := [.lit (.bool false)], args := [d1, d2] }
  | _ => none }
def FilterMiddlesWrongFalsely : Prop := filterMiddlesRow.holds Try.pinned (OpenSpec.ofChange filterMiddlesWrong)

/- THE SECOND FORM. 'bulk': how many values and letters a reading holds, each counted each time it is reached (what is shared counts as often as it is met; a slice's spare places count too). A statement '..UptoSaid' is the law's where the arguments, and the package variables that the reading takes, are together of bulk at most 1048576: NARROWER than '..Said'. Prove '..Said' where nothing that the law and all that it calls make is longer than what came in: it says more and counts as full. Else prove '..UptoSaid'. A law counts once. -/
mutual
def uptoBulk {H : Type} : DataW H → Nat
  | .lit (.string bytes) => bytes.length + 1
  | .lit _ => 1
  | .nil => 1
  | .ptr d => uptoBulk d + 1
  | .slice elems spare => uptoBulkAll elems + uptoBulkAll spare + 1
  | .agg parts => uptoBulkAll parts + 1
  | .iface _ d => uptoBulk d + 1
  | .map entries => uptoBulkEntries entries + 1
  | .held _ => 1
def uptoBulkAll {H : Type} : List (DataW H) → Nat
  | [] => 0
  | d :: r => uptoBulk d + uptoBulkAll r
def uptoBulkEntries {H : Type} : List (Lit × DataW H) → Nat
  | [] => 0
  | x :: r => uptoBulkEntry x + uptoBulkEntries r
def uptoBulkEntry {H : Type} : Lit × DataW H → Nat
  | (.string bytes, d) => bytes.length + uptoBulk d + 1
  | (_, d) => uptoBulk d + 1
 end
def uptoSmall : (H : Type) → List (DataW H) → Bool := fun _ ds => decide (uptoBulkAll ds ≤ 1048576)
def OpenSpec.upto (s : _root_.Go.ChangeSpec) : _root_.Go.OpenSpec := { _root_.Go.OpenSpec.ofChange s with cond := some uptoSmall }

/-- 'magnetolaw07.FilterLags', WHERE WHAT IT READS IS OF BULK AT MOST 1048576: true; the input reads as it did. -/
def filterLagsUptoRow : OpenClaim := { program := "ytoflhcdhgkbdcaa", sum := "7cb706380c9b4dc96a4e191ba672af82c1c0cf80dc732b3932eade922b0bef1d", func := "magneto/magnetolaw07.FilterLags", spec := "filterLags", named := ["math/bits.divideError", "math/bits.overflowError"], apart := false, narrowed := true }
def FilterLagsUptoSaid : Prop := filterLagsUptoRow.holds Try.pinned (OpenSpec.upto filterLagsSpec)

/-- 'magnetolaw07.FilterReaches', WHERE WHAT IT READS IS OF BULK AT MOST 1048576: true; the input reads as it did. -/
def filterReachesUptoRow : OpenClaim := { program := "ytoflhcdhgkbdcaa", sum := "7cb706380c9b4dc96a4e191ba672af82c1c0cf80dc732b3932eade922b0bef1d", func := "magneto/magnetolaw07.FilterReaches", spec := "filterReaches", named := ["math/bits.divideError", "math/bits.overflowError"], apart := false, narrowed := true }
def FilterReachesUptoSaid : Prop := filterReachesUptoRow.holds Try.pinned (OpenSpec.upto filterReachesSpec)

/-- 'magnetolaw07.FilterRates', WHERE WHAT IT READS IS OF BULK AT MOST 1048576: true; the input reads as it did. -/
def filterRatesUptoRow : OpenClaim := { program := "ytoflhcdhgkbdcaa", sum := "7cb706380c9b4dc96a4e191ba672af82c1c0cf80dc732b3932eade922b0bef1d", func := "magneto/magnetolaw07.FilterRates", spec := "filterRates", named := ["math/bits.divideError", "math/bits.overflowError"], apart := false, narrowed := true }
def FilterRatesUptoSaid : Prop := filterRatesUptoRow.holds Try.pinned (OpenSpec.upto filterRatesSpec)

/-- 'magnetolaw07.FilterControls', WHERE WHAT IT READS IS OF BULK AT MOST 1048576: true; the input reads as it did. -/
def filterControlsUptoRow : OpenClaim := { program := "ytoflhcdhgkbdcaa", sum := "7cb706380c9b4dc96a4e191ba672af82c1c0cf80dc732b3932eade922b0bef1d", func := "magneto/magnetolaw07.FilterControls", spec := "filterControls", named := ["math/bits.divideError", "math/bits.overflowError"], apart := false, narrowed := true }
def FilterControlsUptoSaid : Prop := filterControlsUptoRow.holds Try.pinned (OpenSpec.upto filterControlsSpec)

/-- 'magnetolaw07.FilterWinds', WHERE WHAT IT READS IS OF BULK AT MOST 1048576: true; the input reads as it did. -/
def filterWindsUptoRow : OpenClaim := { program := "ytoflhcdhgkbdcaa", sum := "7cb706380c9b4dc96a4e191ba672af82c1c0cf80dc732b3932eade922b0bef1d", func := "magneto/magnetolaw07.FilterWinds", spec := "filterWinds", named := ["math/bits.divideError", "math/bits.overflowError"], apart := false, narrowed := true }
def FilterWindsUptoSaid : Prop := filterWindsUptoRow.holds Try.pinned (OpenSpec.upto filterWindsSpec)

/-- 'magnetolaw07.FilterHolds', WHERE WHAT IT READS IS OF BULK AT MOST 1048576: true; the input reads as it did. -/
def filterHoldsUptoRow : OpenClaim := { program := "ytoflhcdhgkbdcaa", sum := "7cb706380c9b4dc96a4e191ba672af82c1c0cf80dc732b3932eade922b0bef1d", func := "magneto/magnetolaw07.FilterHolds", spec := "filterHolds", named := ["math/bits.divideError", "math/bits.overflowError"], apart := false, narrowed := true }
def FilterHoldsUptoSaid : Prop := filterHoldsUptoRow.holds Try.pinned (OpenSpec.upto filterHoldsSpec)

/-- 'magnetolaw07.FilterBounces', WHERE WHAT IT READS IS OF BULK AT MOST 1048576: true; the input reads as it did. -/
def filterBouncesUptoRow : OpenClaim := { program := "ytoflhcdhgkbdcaa", sum := "7cb706380c9b4dc96a4e191ba672af82c1c0cf80dc732b3932eade922b0bef1d", func := "magneto/magnetolaw07.FilterBounces", spec := "filterBounces", unfollowed := true, recurses := true, named := ["math/bits.divideError", "math/bits.overflowError"], apart := false, narrowed := true }
def FilterBouncesUptoSaid : Prop := filterBouncesUptoRow.holds Try.pinned (OpenSpec.upto filterBouncesSpec)

/-- 'magnetolaw07.FilterDebounces', WHERE WHAT IT READS IS OF BULK AT MOST 1048576: true; the input reads as it did. -/
def filterDebouncesUptoRow : OpenClaim := { program := "ytoflhcdhgkbdcaa", sum := "7cb706380c9b4dc96a4e191ba672af82c1c0cf80dc732b3932eade922b0bef1d", func := "magneto/magnetolaw07.FilterDebounces", spec := "filterDebounces", unfollowed := true, recurses := true, named := ["math/bits.divideError", "math/bits.overflowError"], apart := false, narrowed := true }
def FilterDebouncesUptoSaid : Prop := filterDebouncesUptoRow.holds Try.pinned (OpenSpec.upto filterDebouncesSpec)

/-- 'magnetolaw07.FilterWindows', WHERE WHAT IT READS IS OF BULK AT MOST 1048576: true; the input reads as it did. -/
def filterWindowsUptoRow : OpenClaim := { program := "ytoflhcdhgkbdcaa", sum := "7cb706380c9b4dc96a4e191ba672af82c1c0cf80dc732b3932eade922b0bef1d", func := "magneto/magnetolaw07.FilterWindows", spec := "filterWindows", named := ["math/bits.divideError", "math/bits.overflowError"], apart := false, narrowed := true }
def FilterWindowsUptoSaid : Prop := filterWindowsUptoRow.holds Try.pinned (OpenSpec.upto filterWindowsSpec)

/-- 'magnetolaw07.FilterMiddles', WHERE WHAT IT READS IS OF BULK AT MOST 1048576: true; the input reads as it did. -/
def filterMiddlesUptoRow : OpenClaim := { program := "ytoflhcdhgkbdcaa", sum := "7cb706380c9b4dc96a4e191ba672af82c1c0cf80dc732b3932eade922b0bef1d", func := "magneto/magnetolaw07.FilterMiddles", spec := "filterMiddles", named := ["math/bits.divideError", "math/bits.overflowError"], apart := false, narrowed := true }
def FilterMiddlesUptoSaid : Prop := filterMiddlesUptoRow.holds Try.pinned (OpenSpec.upto filterMiddlesSpec)

end Rows
end Go.Proofs.Ytoflhcdhgkbdcaa
