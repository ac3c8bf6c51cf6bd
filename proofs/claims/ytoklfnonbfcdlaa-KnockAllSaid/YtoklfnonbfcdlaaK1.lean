/- Knocking: intensities and valid states. -/
import Derived.Test.YtoklfnonbfcdlaaProg
import Derived.Test.YtoklfnonbfcdlaaEd
namespace Go.Proofs.Ytoklfnonbfcdlaa
set_option linter.unusedVariables false
set_option linter.unusedSimpArgs false
open Go.RowKit

def intensityB (n : Int) : Bool := decide (0 ≤ n) && decide (n ≤ 4095)
def knockB (r n q : Int) : Bool := decide (0 ≤ r) && decide (r ≤ 960) && intensityB n && decide (0 ≤ q) && decide (q < 100)
def intensity_res (n : Int) : CRes := ⟨[], .one (.cel (.bool (intensityB n))), []⟩
def intensity_go : List TV → List RowA → List (List CV) → Option CRes := fun args rows caps =>
  match args, rows, caps with
  | [.cel (.int .i64 n)], [], [] => some (intensity_res n)
  | _, _, _ => none
def intensity_e : Ent := ⟨27, [], intensity_go⟩
set_option maxRecDepth 100000 in
theorem intensity_tree (n : Int) : ((((decide ((0 : Int) ≤ n)) && (decide (n ≤ (4095 : Int)))) = (intensityB n))) = EXD Try.prog (conOf []) Try.f27 [.cel (.int .i64 n)] [] [] (intensity_res n) := by kernel_rfl
theorem intensity_holds (n : Int)  : (((decide ((0 : Int) ≤ n)) && (decide (n ≤ (4095 : Int)))) = (intensityB n)) := by
  simp [condF, intensityB]
set_option maxHeartbeats 2000000 in
theorem intensity_ok : SoundEnt Try.prog intensity_e := by
  refine ent_of_ex (Γ := (conOf [])) (conOf_sound snil) (by kernel_rfl) Try.func27 (by kernel_rfl) (by kernel_rfl) (fun args rows caps res h ho => ?_)
  change intensity_go args rows caps = some res at h
  unfold intensity_go at h
  split at h
  · simp only [Option.some.injEq] at h
    subst h
    rename_i q0_
    skip
    exact EX.of (intensity_tree q0_) (intensity_holds q0_)
  · cases h
def valid_res (r : Int) (n : Int) (q : Int) : CRes := ⟨[], .one (.cel (.bool (knockB r n q))), []⟩
def valid_go : List TV → List RowA → List (List CV) → Option CRes := fun args rows caps =>
  match args, rows, caps with
  | [.agg [.int .i64 r, .int .i64 n, .int .i64 q]], [], [] => some (valid_res r n q)
  | _, _, _ => none
def valid_e : Ent := ⟨11, [], valid_go⟩
set_option maxRecDepth 100000 in
theorem valid_tree (r : Int) (n : Int) (q : Int) : (((((((decide ((0 : Int) ≤ r)) && (decide (r ≤ (960 : Int)))) && (intensityB n)) && (decide ((0 : Int) ≤ q))) && (decide (q < (100 : Int)))) = (knockB r n q))) = EXD Try.prog (conOf [intensity_e]) Try.f11 [.agg [.int .i64 r, .int .i64 n, .int .i64 q]] [] [] (valid_res r n q) := by kernel_rfl
theorem valid_holds (r : Int) (n : Int) (q : Int)  : ((((((decide ((0 : Int) ≤ r)) && (decide (r ≤ (960 : Int)))) && (intensityB n)) && (decide ((0 : Int) ≤ q))) && (decide (q < (100 : Int)))) = (knockB r n q)) := by
  simp [condF, knockB]
set_option maxHeartbeats 2000000 in
theorem valid_ok : SoundEnt Try.prog valid_e := by
  refine ent_of_ex (Γ := (conOf [intensity_e])) (conOf_sound (scons intensity_ok snil)) (by kernel_rfl) Try.func11 (by kernel_rfl) (by kernel_rfl) (fun args rows caps res h ho => ?_)
  change valid_go args rows caps = some res at h
  unfold valid_go at h
  split at h
  · simp only [Option.some.injEq] at h
    subst h
    rename_i q0_ q1_ q2_
    skip
    exact EX.of (valid_tree q0_ q1_ q2_) (valid_holds q0_ q1_ q2_)
  · cases h
end Go.Proofs.Ytoklfnonbfcdlaa

