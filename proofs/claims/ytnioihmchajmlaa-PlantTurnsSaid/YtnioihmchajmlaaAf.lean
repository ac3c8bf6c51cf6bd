/- Exact quotients rounded down, and limits. -/
import Derived.Test.YtnioihmchajmlaaAd
namespace Go.Proofs.Ytnioihmchajmlaa
set_option linter.unusedVariables false
set_option linter.unusedSimpArgs false
open Go.RowKit

def floor_res (a : Int) (c : Int) : CRes := ⟨[inBig a, decide (1 ≤ c), inBig c], .one (.cel (.int .i64 (a / c))), []⟩
def floor_go : List TV → List RowA → Option CRes := fun args rows =>
  match args, rows with
  | [.cel (.int .i64 a), .cel (.int .i64 c)], [] => some (floor_res a c)
  | _, _ => none
def floor_e : Ent := ⟨38, [], floor_go⟩
set_option maxRecDepth 100000 in
theorem floor_tree (a : Int) (c : Int) : ((cnd (inBig a)
  (cnd (decide ((1 : Int) ≤ c))
    (cnd (inBig c)
      ((rdiv a c (1 : Int)) = (a / c))
      False)
    False)
  False)) = EXD Try.prog (conOf [div_e]) Try.f38 [.cel (.int .i64 a), .cel (.int .i64 c)] [] (floor_res a c) := by kernel_rfl
theorem floor_holds (a : Int) (c : Int) (p0 : inBig a = true) (p1 : decide (1 ≤ c) = true) (p2 : inBig c = true) : (cnd (inBig a)
  (cnd (decide ((1 : Int) ≤ c))
    (cnd (inBig c)
      ((rdiv a c (1 : Int)) = (a / c))
      False)
    False)
  False) := by
  (repeat' (first | with_reducible rfl | trivial | (refine cnd_i (fun h => ?_) (fun h => ?_)) | (refine And.intro ?_ ?_) | (intro h)))
  all_goals (simp_all)
theorem floor_ok : SoundEnt Try.prog floor_e := by
  refine ent_of_ex (Γ := (conOf [div_e])) (conOf_sound (scons div_ok snil)) (by kernel_rfl) Try.func38 (by kernel_rfl) (by kernel_rfl) (fun args rows res h ho => ?_)
  change floor_go args rows = some res at h
  unfold floor_go at h
  split at h
  · simp only [Option.some.injEq] at h
    subst h
    obtain ⟨p0, p1, p2, _⟩ := ho
    exact EX.of (floor_tree _ _) (floor_holds _ _ p0 p1 p2)
  · cases h
def clamp_res (x : Int) (lo : Int) (hi : Int) : CRes := ⟨[], .one (.cel (.int .i64 (min (max x lo) hi))), []⟩
def clamp_go : List TV → List RowA → Option CRes := fun args rows =>
  match args, rows with
  | [.cel (.int .i64 x), .cel (.int .i64 lo), .cel (.int .i64 hi)], [] => some (clamp_res x lo hi)
  | _, _ => none
def clamp_e : Ent := ⟨35, [], clamp_go⟩
set_option maxRecDepth 100000 in
theorem clamp_tree (x : Int) (lo : Int) (hi : Int) : (((gmin (gmax x lo) hi) = (Min.min (Max.max x lo) hi))) = EXD Try.prog (conOf []) Try.f35 [.cel (.int .i64 x), .cel (.int .i64 lo), .cel (.int .i64 hi)] [] (clamp_res x lo hi) := by kernel_rfl
theorem clamp_holds (x : Int) (lo : Int) (hi : Int)  : ((gmin (gmax x lo) hi) = (Min.min (Max.max x lo) hi)) := by
  simp only [gmin, gmax]
  omega
theorem clamp_ok : SoundEnt Try.prog clamp_e := by
  refine ent_of_ex (Γ := (conOf [])) (conOf_sound snil) (by kernel_rfl) Try.func35 (by kernel_rfl) (by kernel_rfl) (fun args rows res h ho => ?_)
  change clamp_go args rows = some res at h
  unfold clamp_go at h
  split at h
  · simp only [Option.some.injEq] at h
    subst h
    skip
    exact EX.of (clamp_tree _ _ _) (clamp_holds _ _ _)
  · cases h
end Go.Proofs.Ytnioihmchajmlaa

