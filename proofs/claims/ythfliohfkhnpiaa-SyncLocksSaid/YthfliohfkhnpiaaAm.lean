/- Exact remainders. -/
import Derived.Test.YthfliohfkhnpiaaAd
namespace Go.Proofs.Ythfliohfkhnpiaa
set_option linter.unusedVariables false
set_option linter.unusedSimpArgs false
open Go.RowKit

def mod_res (a : Int) (c : Int) : CRes := ⟨[in64 a, decide (1 ≤ c), in64 c], .one (.cel (.int .i64 (a % c))), []⟩
def mod_go : List TV → List RowA → List (List CV) → Option CRes := fun args rows caps =>
  match args, rows, caps with
  | [.cel (.int .i64 a), .cel (.int .i64 c)], [], [] => some (mod_res a c)
  | _, _, _ => none
def mod_e : Ent := ⟨105, [], mod_go⟩
set_option maxRecDepth 100000 in
theorem mod_tree (a : Int) (c : Int) : ((cnd ((decide (c = (0 : Int))) || (decide (c = (-(1 : Int)))))
  ((0 : Int) = (a % c))
  (cnd (decide (c ≠ (0 : Int)))
    (cnd ((!(decide ((Int.tmod a c) = (0 : Int)))) && (!((decide ((Int.tmod a c) < (0 : Int))) == (decide (c < (0 : Int))))))
      ((Go.IntKind.wrap Go.IntKind.i64 ((Int.tmod a c) + c)) = (a % c))
      ((Int.tmod a c) = (a % c)))
    False))) = EXD Try.prog (conOf []) Try.f105 [.cel (.int .i64 a), .cel (.int .i64 c)] [] [] (mod_res a c) := by kernel_rfl
theorem mod_holds (a : Int) (c : Int) (p0 : in64 a = true) (p1 : decide (1 ≤ c) = true) (p2 : in64 c = true) : (cnd ((decide (c = (0 : Int))) || (decide (c = (-(1 : Int)))))
  ((0 : Int) = (a % c))
  (cnd (decide (c ≠ (0 : Int)))
    (cnd ((!(decide ((Int.tmod a c) = (0 : Int)))) && (!((decide ((Int.tmod a c) < (0 : Int))) == (decide (c < (0 : Int))))))
      ((Go.IntKind.wrap Go.IntKind.i64 ((Int.tmod a c) + c)) = (a % c))
      ((Int.tmod a c) = (a % c)))
    False)) := by
  rw [in64_iff] at p0 p2
  simp only [decide_eq_true_eq] at p1
  have hm := Int.emod_nonneg a (b := c) (by omega)
  have hm2 := Int.emod_lt_of_pos a (b := c) (by omega)
  have ht : a.tmod c = if a % c = 0 then 0 else if 0 ≤ a then a % c else a % c - c := by
    rw [Int.tmod_eq_emod]
    have hd : c ∣ a ↔ a % c = 0 := Int.dvd_iff_emod_eq_zero
    have hn : ((c.natAbs : Nat) : Int) = c := by omega
    split <;> split <;> (try split) <;> simp_all <;> omega
  rw [ht]
  (repeat' (first | with_reducible rfl | trivial | (refine cnd_i (fun h => ?_) (fun h => ?_)) | (refine And.intro ?_ ?_) | (intro h)))
  all_goals (simp only [Bool.and_eq_true, Bool.or_eq_true, Bool.not_eq_true', Bool.and_eq_false_iff, Bool.or_eq_false_iff, Bool.not_eq_false', decide_eq_true_eq, decide_eq_false_iff_not, Bool.not_eq_true, Bool.not_eq_false, ne_eq, gt_iff_lt, ge_iff_le, Decidable.not_not, beq_iff_eq, decide_eq_decide, beq_eq_false_iff_ne] at *)
  all_goals (first | omega | skip)
  all_goals (try rw [IntKind.wrap_i64])
  all_goals (split <;> (try split) <;> simp_all <;> omega)
set_option maxHeartbeats 2000000 in
theorem mod_ok : SoundEnt Try.prog mod_e := by
  refine ent_of_ex (Γ := (conOf [])) (conOf_sound snil) (by kernel_rfl) Try.func105 (by kernel_rfl) (by kernel_rfl) (fun args rows caps res h ho => ?_)
  change mod_go args rows caps = some res at h
  unfold mod_go at h
  split at h
  · simp only [Option.some.injEq] at h
    subst h
    rename_i q0_ q1_
    obtain ⟨p0, p1, p2, _⟩ := ho
    exact EX.of (mod_tree q0_ q1_) (mod_holds q0_ q1_ p0 p1 p2)
  · cases h
end Go.Proofs.Ythfliohfkhnpiaa

