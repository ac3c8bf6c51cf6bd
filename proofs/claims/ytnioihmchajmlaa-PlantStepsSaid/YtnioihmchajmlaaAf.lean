/- Exact quotients rounded down, and limits. -/
import Derived.Test.YtnioihmchajmlaaAd
namespace Go.Proofs.Ytnioihmchajmlaa
set_option linter.unusedVariables false
set_option linter.unusedSimpArgs false
open Go.RowKit

def floor_res (a : Int) (c : Int) : CRes := ⟨[inBig a, decide (1 ≤ c), inBig c], .one (.cel (.int .i64 (a / c))), []⟩
def floor_go : List TV → List RowA → List (List CV) → Option CRes := fun args rows caps =>
  match args, rows, caps with
  | [.cel (.int .i64 a), .cel (.int .i64 c)], [], [] => some (floor_res a c)
  | _, _, _ => none
def floor_e : Ent := ⟨38, [], floor_go⟩
set_option maxRecDepth 100000 in
theorem floor_tree (a : Int) (c : Int) : ((cnd (inBig a)
  (cnd (decide ((1 : Int) ≤ c))
    (cnd (inBig c)
      ((rdiv a c (1 : Int)) = (a / c))
      False)
    False)
  False)) = EXD Try.prog (conOf [div_e]) Try.f38 [.cel (.int .i64 a), .cel (.int .i64 c)] [] [] (floor_res a c) := by kernel_rfl
theorem floor_holds (a : Int) (c : Int) (p0 : inBig a = true) (p1 : decide (1 ≤ c) = true) (p2 : inBig c = true) : (cnd (inBig a)
  (cnd (decide ((1 : Int) ≤ c))
    (cnd (inBig c)
      ((rdiv a c (1 : Int)) = (a / c))
      False)
    False)
  False) := by
  (repeat' (first | with_reducible rfl | trivial | (refine cnd_i (fun h => ?_) (fun h => ?_)) | (refine And.intro ?_ ?_) | (intro h)))
  all_goals (simp_all)
set_option maxHeartbeats 2000000 in
theorem floor_ok : SoundEnt Try.prog floor_e := by
  refine ent_of_ex (Γ := (conOf [div_e])) (conOf_sound (scons div_ok snil)) (by kernel_rfl) Try.func38 (by kernel_rfl) (by kernel_rfl) (fun args rows caps res h ho => ?_)
  change floor_go args rows caps = some res at h
  unfold floor_go at h
  split at h
  · simp only [Option.some.injEq] at h
    subst h
    rename_i q0_ q1_
    obtain ⟨p0, p1, p2, _⟩ := ho
    exact EX.of (floor_tree q0_ q1_) (floor_holds q0_ q1_ p0 p1 p2)
  · cases h
def clamp_res (x : Int) (lo : Int) (hi : Int) : CRes := ⟨[], .one (.cel (.int .i64 (min (max x lo) hi))), []⟩
def clamp_go : List TV → List RowA → List (List CV) → Option CRes := fun args rows caps =>
  match args, rows, caps with
  | [.cel (.int .i64 x), .cel (.int .i64 lo), .cel (.int .i64 hi)], [], [] => some (clamp_res x lo hi)
  | _, _, _ => none
def clamp_e : Ent := ⟨35, [], clamp_go⟩
set_option maxRecDepth 100000 in
theorem clamp_tree (x : Int) (lo : Int) (hi : Int) : (((gmin (gmax x lo) hi) = (Min.min (Max.max x lo) hi))) = EXD Try.prog (conOf []) Try.f35 [.cel (.int .i64 x), .cel (.int .i64 lo), .cel (.int .i64 hi)] [] [] (clamp_res x lo hi) := by kernel_rfl
theorem clamp_holds (x : Int) (lo : Int) (hi : Int)  : ((gmin (gmax x lo) hi) = (Min.min (Max.max x lo) hi)) := by
  simp only [gmin, gmax]
  omega
set_option maxHeartbeats 2000000 in
theorem clamp_ok : SoundEnt Try.prog clamp_e := by
  refine ent_of_ex (Γ := (conOf [])) (conOf_sound snil) (by kernel_rfl) Try.func35 (by kernel_rfl) (by kernel_rfl) (fun args rows caps res h ho => ?_)
  change clamp_go args rows caps = some res at h
  unfold clamp_go at h
  split at h
  · simp only [Option.some.injEq] at h
    subst h
    rename_i q0_ q1_ q2_
    skip
    exact EX.of (clamp_tree q0_ q1_ q2_) (clamp_holds q0_ q1_ q2_)
  · cases h
end Go.Proofs.Ytnioihmchajmlaa

