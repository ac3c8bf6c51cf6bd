/- Exact quotients: what the functions of arith come to. -/
import Derived.Test.YthfliohfkhnpiaaProg
import Derived.Test.YthfliohfkhnpiaaEd
namespace Go.Proofs.Ythfliohfkhnpiaa
set_option linter.unusedVariables false
set_option linter.unusedSimpArgs false
open Go.RowKit

def in64 (n : Int) : Bool := decide (-9223372036854775808 ≤ n) && decide (n ≤ 9223372036854775807)
def inu64 (n : Int) : Bool := decide (0 ≤ n) && decide (n ≤ 18446744073709551615)
def inBig (n : Int) : Bool := decide (-4611686018427387904 ≤ n) && decide (n ≤ 4611686018427387904)
def iabs (n : Int) : Int := if n < 0 then -n else n
def rdiv (a b m : Int) : Int := if m = 1 then a / b else -((-a) / b)
theorem in64_iff {n : Int} : in64 n = true ↔ -9223372036854775808 ≤ n ∧ n ≤ 9223372036854775807 := by simp [in64]
theorem inu64_iff {n : Int} : inu64 n = true ↔ 0 ≤ n ∧ n ≤ 18446744073709551615 := by simp [inu64]
theorem inBig_iff {n : Int} : inBig n = true ↔ -4611686018427387904 ≤ n ∧ n ≤ 4611686018427387904 := by simp [inBig]
theorem and32 {x : Int} (h0 : 0 ≤ x) (h1 : x ≤ 18446744073709551615) : ((BitVec.toNat (BitVec.ofInt 64 x &&& BitVec.ofInt 64 4294967295) : Nat) : Int) = x % 4294967296 := by
  obtain ⟨n, rfl⟩ : ∃ n : Nat, x = n := ⟨x.toNat, by omega⟩
  have e : (BitVec.ofInt 64 (n : Int)).toNat = n := by simp [BitVec.toNat_ofInt]; omega
  have e2 : (BitVec.ofInt 64 4294967295).toNat = 2 ^ 32 - 1 := by decide
  rw [BitVec.toNat_and, e, e2, Nat.and_two_pow_sub_one_eq_mod]
  omega
theorem and32w {x : Int} (h0 : 0 ≤ x) (h1 : x ≤ 18446744073709551615) : IntKind.u64.wrap ((BitVec.toNat (BitVec.ofInt (IntKind.bits .u64) x &&& BitVec.ofInt (IntKind.bits .u64) 4294967295) : Nat) : Int) = x % 4294967296 := by
  show IntKind.u64.wrap ((BitVec.toNat (BitVec.ofInt 64 x &&& BitVec.ofInt 64 4294967295) : Nat) : Int) = x % 4294967296
  rw [and32 h0 h1, wu64 (by omega) (by omega)]
theorem fdiv32 (n : Int) : Int.fdiv n 4294967296 = n / 4294967296 := Int.fdiv_eq_ediv_of_nonneg _ (by decide)
theorem quo_pos {x y : Int} (h0 : 0 ≤ x) (h1 : 1 ≤ y) : 0 ≤ x / y ∧ x / y ≤ x ∧ 0 ≤ x % y ∧ x % y < y :=
  ⟨Int.ediv_nonneg h0 (by omega), Int.ediv_le_self _ h0, Int.emod_nonneg _ (by omega), Int.emod_lt_of_pos _ (by omega)⟩
theorem neg_quo (x y : Int) (h1 : 1 ≤ y) : (-x) / y = if x % y = 0 then -(x / y) else -(x / y) - 1 := by
  rw [Int.neg_ediv]
  have : y ∣ x ↔ x % y = 0 := Int.dvd_iff_emod_eq_zero
  rw [Int.sign_eq_one_of_pos (by omega)]
  split <;> split <;> simp_all
def mul64_res (x : Int) : CRes := ⟨[inu64 x], .tup [.cel (.int .u64 (0)), .cel (.int .u64 (x))], []⟩
def mul64_go : List TV → List RowA → List (List CV) → Option CRes := fun args rows caps =>
  match args, rows, caps with
  | [.cel (.int .u64 x), .cel (.int .u64 1)], [], [] => some (mul64_res x)
  | _, _, _ => none
def mul64_e : Ent := ⟨142, [], mul64_go⟩
set_option maxRecDepth 100000 in
theorem mul64_tree (x : Int) : ((((Go.IntKind.wrap Go.IntKind.u64 ((Go.IntKind.wrap Go.IntKind.u64 ((Go.IntKind.wrap Go.IntKind.u64 ((Int.fdiv x ((2 : Int) ^ (Min.min (Int.toNat (32 : Int)) (Go.IntKind.bits Go.IntKind.u64)))) * (Int.fdiv (1 : Int) ((2 : Int) ^ (Min.min (Int.toNat (32 : Int)) (Go.IntKind.bits Go.IntKind.u64)))))) + (Int.fdiv (Go.IntKind.wrap Go.IntKind.u64 ((Go.IntKind.wrap Go.IntKind.u64 ((Int.fdiv x ((2 : Int) ^ (Min.min (Int.toNat (32 : Int)) (Go.IntKind.bits Go.IntKind.u64)))) * (Go.IntKind.wrap Go.IntKind.u64 (((BitVec.toNat ((BitVec.ofInt (Go.IntKind.bits Go.IntKind.u64) (1 : Int)) &&& (BitVec.ofInt (Go.IntKind.bits Go.IntKind.u64) (4294967295 : Int)))) : Nat) : Int)))) + (Int.fdiv (Go.IntKind.wrap Go.IntKind.u64 ((Go.IntKind.wrap Go.IntKind.u64 (((BitVec.toNat ((BitVec.ofInt (Go.IntKind.bits Go.IntKind.u64) x) &&& (BitVec.ofInt (Go.IntKind.bits Go.IntKind.u64) (4294967295 : Int)))) : Nat) : Int)) * (Go.IntKind.wrap Go.IntKind.u64 (((BitVec.toNat ((BitVec.ofInt (Go.IntKind.bits Go.IntKind.u64) (1 : Int)) &&& (BitVec.ofInt (Go.IntKind.bits Go.IntKind.u64) (4294967295 : Int)))) : Nat) : Int)))) ((2 : Int) ^ (Min.min (Int.toNat (32 : Int)) (Go.IntKind.bits Go.IntKind.u64)))))) ((2 : Int) ^ (Min.min (Int.toNat (32 : Int)) (Go.IntKind.bits Go.IntKind.u64)))))) + (Int.fdiv (Go.IntKind.wrap Go.IntKind.u64 ((Go.IntKind.wrap Go.IntKind.u64 (((BitVec.toNat ((BitVec.ofInt (Go.IntKind.bits Go.IntKind.u64) (Go.IntKind.wrap Go.IntKind.u64 ((Go.IntKind.wrap Go.IntKind.u64 ((Int.fdiv x ((2 : Int) ^ (Min.min (Int.toNat (32 : Int)) (Go.IntKind.bits Go.IntKind.u64)))) * (Go.IntKind.wrap Go.IntKind.u64 (((BitVec.toNat ((BitVec.ofInt (Go.IntKind.bits Go.IntKind.u64) (1 : Int)) &&& (BitVec.ofInt (Go.IntKind.bits Go.IntKind.u64) (4294967295 : Int)))) : Nat) : Int)))) + (Int.fdiv (Go.IntKind.wrap Go.IntKind.u64 ((Go.IntKind.wrap Go.IntKind.u64 (((BitVec.toNat ((BitVec.ofInt (Go.IntKind.bits Go.IntKind.u64) x) &&& (BitVec.ofInt (Go.IntKind.bits Go.IntKind.u64) (4294967295 : Int)))) : Nat) : Int)) * (Go.IntKind.wrap Go.IntKind.u64 (((BitVec.toNat ((BitVec.ofInt (Go.IntKind.bits Go.IntKind.u64) (1 : Int)) &&& (BitVec.ofInt (Go.IntKind.bits Go.IntKind.u64) (4294967295 : Int)))) : Nat) : Int)))) ((2 : Int) ^ (Min.min (Int.toNat (32 : Int)) (Go.IntKind.bits Go.IntKind.u64))))))) &&& (BitVec.ofInt (Go.IntKind.bits Go.IntKind.u64) (4294967295 : Int)))) : Nat) : Int)) + (Go.IntKind.wrap Go.IntKind.u64 ((Go.IntKind.wrap Go.IntKind.u64 (((BitVec.toNat ((BitVec.ofInt (Go.IntKind.bits Go.IntKind.u64) x) &&& (BitVec.ofInt (Go.IntKind.bits Go.IntKind.u64) (4294967295 : Int)))) : Nat) : Int)) * (Int.fdiv (1 : Int) ((2 : Int) ^ (Min.min (Int.toNat (32 : Int)) (Go.IntKind.bits Go.IntKind.u64)))))))) ((2 : Int) ^ (Min.min (Int.toNat (32 : Int)) (Go.IntKind.bits Go.IntKind.u64)))))) = (0 : Int)) ∧ ((Go.IntKind.wrap Go.IntKind.u64 (x * (1 : Int))) = x))) = EXD Try.prog (conOf []) Try.f142 [.cel (.int .u64 x), .cel (.int .u64 1)] [] [] (mul64_res x) := by kernel_rfl
theorem mul64_holds (x : Int) (p0 : inu64 x = true) : (((Go.IntKind.wrap Go.IntKind.u64 ((Go.IntKind.wrap Go.IntKind.u64 ((Go.IntKind.wrap Go.IntKind.u64 ((Int.fdiv x ((2 : Int) ^ (Min.min (Int.toNat (32 : Int)) (Go.IntKind.bits Go.IntKind.u64)))) * (Int.fdiv (1 : Int) ((2 : Int) ^ (Min.min (Int.toNat (32 : Int)) (Go.IntKind.bits Go.IntKind.u64)))))) + (Int.fdiv (Go.IntKind.wrap Go.IntKind.u64 ((Go.IntKind.wrap Go.IntKind.u64 ((Int.fdiv x ((2 : Int) ^ (Min.min (Int.toNat (32 : Int)) (Go.IntKind.bits Go.IntKind.u64)))) * (Go.IntKind.wrap Go.IntKind.u64 (((BitVec.toNat ((BitVec.ofInt (Go.IntKind.bits Go.IntKind.u64) (1 : Int)) &&& (BitVec.ofInt (Go.IntKind.bits Go.IntKind.u64) (4294967295 : Int)))) : Nat) : Int)))) + (Int.fdiv (Go.IntKind.wrap Go.IntKind.u64 ((Go.IntKind.wrap Go.IntKind.u64 (((BitVec.toNat ((BitVec.ofInt (Go.IntKind.bits Go.IntKind.u64) x) &&& (BitVec.ofInt (Go.IntKind.bits Go.IntKind.u64) (4294967295 : Int)))) : Nat) : Int)) * (Go.IntKind.wrap Go.IntKind.u64 (((BitVec.toNat ((BitVec.ofInt (Go.IntKind.bits Go.IntKind.u64) (1 : Int)) &&& (BitVec.ofInt (Go.IntKind.bits Go.IntKind.u64) (4294967295 : Int)))) : Nat) : Int)))) ((2 : Int) ^ (Min.min (Int.toNat (32 : Int)) (Go.IntKind.bits Go.IntKind.u64)))))) ((2 : Int) ^ (Min.min (Int.toNat (32 : Int)) (Go.IntKind.bits Go.IntKind.u64)))))) + (Int.fdiv (Go.IntKind.wrap Go.IntKind.u64 ((Go.IntKind.wrap Go.IntKind.u64 (((BitVec.toNat ((BitVec.ofInt (Go.IntKind.bits Go.IntKind.u64) (Go.IntKind.wrap Go.IntKind.u64 ((Go.IntKind.wrap Go.IntKind.u64 ((Int.fdiv x ((2 : Int) ^ (Min.min (Int.toNat (32 : Int)) (Go.IntKind.bits Go.IntKind.u64)))) * (Go.IntKind.wrap Go.IntKind.u64 (((BitVec.toNat ((BitVec.ofInt (Go.IntKind.bits Go.IntKind.u64) (1 : Int)) &&& (BitVec.ofInt (Go.IntKind.bits Go.IntKind.u64) (4294967295 : Int)))) : Nat) : Int)))) + (Int.fdiv (Go.IntKind.wrap Go.IntKind.u64 ((Go.IntKind.wrap Go.IntKind.u64 (((BitVec.toNat ((BitVec.ofInt (Go.IntKind.bits Go.IntKind.u64) x) &&& (BitVec.ofInt (Go.IntKind.bits Go.IntKind.u64) (4294967295 : Int)))) : Nat) : Int)) * (Go.IntKind.wrap Go.IntKind.u64 (((BitVec.toNat ((BitVec.ofInt (Go.IntKind.bits Go.IntKind.u64) (1 : Int)) &&& (BitVec.ofInt (Go.IntKind.bits Go.IntKind.u64) (4294967295 : Int)))) : Nat) : Int)))) ((2 : Int) ^ (Min.min (Int.toNat (32 : Int)) (Go.IntKind.bits Go.IntKind.u64))))))) &&& (BitVec.ofInt (Go.IntKind.bits Go.IntKind.u64) (4294967295 : Int)))) : Nat) : Int)) + (Go.IntKind.wrap Go.IntKind.u64 ((Go.IntKind.wrap Go.IntKind.u64 (((BitVec.toNat ((BitVec.ofInt (Go.IntKind.bits Go.IntKind.u64) x) &&& (BitVec.ofInt (Go.IntKind.bits Go.IntKind.u64) (4294967295 : Int)))) : Nat) : Int)) * (Int.fdiv (1 : Int) ((2 : Int) ^ (Min.min (Int.toNat (32 : Int)) (Go.IntKind.bits Go.IntKind.u64)))))))) ((2 : Int) ^ (Min.min (Int.toNat (32 : Int)) (Go.IntKind.bits Go.IntKind.u64)))))) = (0 : Int)) ∧ ((Go.IntKind.wrap Go.IntKind.u64 (x * (1 : Int))) = x)) := by
  rw [inu64_iff] at p0
  obtain ⟨a0, a1⟩ := p0
  have e2 : ((2 : Int) ^ (Min.min (Int.toNat (32 : Int)) (Go.IntKind.bits .u64))) = 4294967296 := by decide +kernel
  have e3 : (1 : Int) % 4294967296 = 1 := by decide
  have e4 : (1 : Int) / 4294967296 = 0 := by decide
  refine ⟨?_, by rw [Int.mul_one, wu64 a0 a1]⟩
  rw [e2]
  simp only [fdiv32]
  rw [and32w (x := 1) (by decide) (by decide), and32w a0 a1, e3, e4]
  simp only [Int.mul_one, Int.mul_zero, IntKind.wrap_u64]
  have e5 : ((x / 4294967296) % 18446744073709551616 + ((x % 4294967296) % 18446744073709551616) / 4294967296) % 18446744073709551616 = x / 4294967296 := by omega
  rw [e5]
  have e6 := and32w (x := x / 4294967296) (by omega) (by omega)
  rw [IntKind.wrap_u64] at e6
  rw [e6]
  omega
set_option maxHeartbeats 2000000 in
theorem mul64_ok : SoundEnt Try.prog mul64_e := by
  refine ent_of_ex (Γ := (conOf [])) (conOf_sound snil) (by kernel_rfl) Try.func142 (by kernel_rfl) (by kernel_rfl) (fun args rows caps res h ho => ?_)
  change mul64_go args rows caps = some res at h
  unfold mul64_go at h
  split at h
  · simp only [Option.some.injEq] at h
    subst h
    rename_i q0_
    obtain ⟨p0, _⟩ := ho
    exact EX.of (mul64_tree q0_) (mul64_holds q0_ p0)
  · cases h
def div64_res (x : Int) (y : Int) : CRes := ⟨[inu64 x, decide (1 ≤ y), inu64 y], .tup [.cel (.int .u64 (x / y)), .cel (.int .u64 (x % y))], []⟩
def div64_go : List TV → List RowA → List (List CV) → Option CRes := fun args rows caps =>
  match args, rows, caps with
  | [.cel (.int .u64 0), .cel (.int .u64 x), .cel (.int .u64 y)], [], [] => some (div64_res x y)
  | _, _, _ => none
def div64_e : Ent := ⟨144, [], div64_go⟩
set_option maxRecDepth 100000 in
theorem div64_tree (x : Int) (y : Int) : ((cnd (decide (y = (0 : Int)))
  False
  (cnd (decide (y ≤ (0 : Int)))
    False
    (cnd (decide (y ≠ (0 : Int)))
      (cnd (decide (y ≠ (0 : Int)))
        (((Go.IntKind.wrap Go.IntKind.u64 (Int.tdiv x y)) = (x / y)) ∧ ((Int.tmod x y) = (x % y)))
        False)
      False)))) = EXD Try.prog (conOf []) Try.f144 [.cel (.int .u64 0), .cel (.int .u64 x), .cel (.int .u64 y)] [] [] (div64_res x y) := by kernel_rfl
theorem div64_holds (x : Int) (y : Int) (p0 : inu64 x = true) (p1 : decide (1 ≤ y) = true) (p2 : inu64 y = true) : (cnd (decide (y = (0 : Int)))
  False
  (cnd (decide (y ≤ (0 : Int)))
    False
    (cnd (decide (y ≠ (0 : Int)))
      (cnd (decide (y ≠ (0 : Int)))
        (((Go.IntKind.wrap Go.IntKind.u64 (Int.tdiv x y)) = (x / y)) ∧ ((Int.tmod x y) = (x % y)))
        False)
      False))) := by
  rw [inu64_iff] at p0 p2
  obtain ⟨a0, a1⟩ := p0
  simp only [decide_eq_true_eq] at p1
  have hq := quo_pos a0 p1
  (repeat' (first | with_reducible rfl | trivial | (refine cnd_i (fun h => ?_) (fun h => ?_)) | (refine And.intro ?_ ?_) | (intro h)))
  all_goals (try simp only [Bool.and_eq_true, Bool.or_eq_true, Bool.not_eq_true', Bool.and_eq_false_iff, Bool.or_eq_false_iff, Bool.not_eq_false', decide_eq_true_eq, decide_eq_false_iff_not, Bool.not_eq_true, Bool.not_eq_false, ne_eq, gt_iff_lt, ge_iff_le, Decidable.not_not] at *)
  all_goals (try omega)
  · rw [tdiv_pos a0, wu64 (by omega) (by omega)]
  · rw [tmod_pos a0]
set_option maxHeartbeats 2000000 in
theorem div64_ok : SoundEnt Try.prog div64_e := by
  refine ent_of_ex (Γ := (conOf [])) (conOf_sound snil) (by kernel_rfl) Try.func144 (by kernel_rfl) (by kernel_rfl) (fun args rows caps res h ho => ?_)
  change div64_go args rows caps = some res at h
  unfold div64_go at h
  split at h
  · simp only [Option.some.injEq] at h
    subst h
    rename_i q0_ q1_
    obtain ⟨p0, p1, p2, _⟩ := ho
    exact EX.of (div64_tree q0_ q1_) (div64_holds q0_ q1_ p0 p1 p2)
  · cases h
def magnitude_res (n : Int) : CRes := ⟨[in64 n], .one (.cel (.int .u64 (iabs n))), []⟩
def magnitude_go : List TV → List RowA → List (List CV) → Option CRes := fun args rows caps =>
  match args, rows, caps with
  | [.cel (.int .i64 n)], [], [] => some (magnitude_res n)
  | _, _, _ => none
def magnitude_e : Ent := ⟨143, [], magnitude_go⟩
set_option maxRecDepth 100000 in
theorem magnitude_tree (n : Int) : ((cnd (decide (n < (0 : Int)))
  ((Go.IntKind.wrap Go.IntKind.u64 ((Go.IntKind.wrap Go.IntKind.u64 (Go.IntKind.wrap Go.IntKind.i64 ((0 : Int) - (Go.IntKind.wrap Go.IntKind.i64 (n + (1 : Int)))))) + (1 : Int))) = (iabs n))
  ((Go.IntKind.wrap Go.IntKind.u64 n) = (iabs n)))) = EXD Try.prog (conOf []) Try.f143 [.cel (.int .i64 n)] [] [] (magnitude_res n) := by kernel_rfl
theorem magnitude_holds (n : Int) (p0 : in64 n = true) : (cnd (decide (n < (0 : Int)))
  ((Go.IntKind.wrap Go.IntKind.u64 ((Go.IntKind.wrap Go.IntKind.u64 (Go.IntKind.wrap Go.IntKind.i64 ((0 : Int) - (Go.IntKind.wrap Go.IntKind.i64 (n + (1 : Int)))))) + (1 : Int))) = (iabs n))
  ((Go.IntKind.wrap Go.IntKind.u64 n) = (iabs n))) := by
  rw [in64_iff] at p0
  (repeat' (first | with_reducible rfl | trivial | (refine cnd_i (fun h => ?_) (fun h => ?_)) | (refine And.intro ?_ ?_) | (intro h)))
  all_goals (simp only [Bool.and_eq_true, Bool.or_eq_true, Bool.not_eq_true', Bool.and_eq_false_iff, Bool.or_eq_false_iff, Bool.not_eq_false', decide_eq_true_eq, decide_eq_false_iff_not, Bool.not_eq_true, Bool.not_eq_false, ne_eq, gt_iff_lt, ge_iff_le, Decidable.not_not] at *)
  all_goals (simp only [iabs, IntKind.wrap_i64, IntKind.wrap_u64]; split <;> omega)
set_option maxHeartbeats 2000000 in
theorem magnitude_ok : SoundEnt Try.prog magnitude_e := by
  refine ent_of_ex (Γ := (conOf [])) (conOf_sound snil) (by kernel_rfl) Try.func143 (by kernel_rfl) (by kernel_rfl) (fun args rows caps res h ho => ?_)
  change magnitude_go args rows caps = some res at h
  unfold magnitude_go at h
  split at h
  · simp only [Option.some.injEq] at h
    subst h
    rename_i q0_
    obtain ⟨p0, _⟩ := ho
    exact EX.of (magnitude_tree q0_) (magnitude_holds q0_ p0)
  · cases h
def rounded_res (r : Int) (c : Int) (neg : Bool) (m : Int) : CRes := ⟨[decide (1 ≤ m), decide (m ≤ 2)], .one (.cel (.bool (decide (0 < r) && (if m = 1 then neg else !neg)))), []⟩
def rounded_go : List TV → List RowA → List (List CV) → Option CRes := fun args rows caps =>
  match args, rows, caps with
  | [.cel (.int .u64 r), .cel (.int .u64 c), .cel (.bool neg), .cel (.int .i64 m)], [], [] => some (rounded_res r c neg m)
  | _, _, _ => none
def rounded_e : Ent := ⟨145, [], rounded_go⟩
set_option maxRecDepth 100000 in
theorem rounded_tree (r : Int) (c : Int) (neg : Bool) (m : Int) : ((cnd (decide (m = (1 : Int)))
  ((neg && (decide ((0 : Int) < r))) = ((decide ((0 : Int) < r)) && (if (m = (1 : Int)) then neg else (!neg))))
  (cnd (decide (m = (2 : Int)))
    (((!neg) && (decide ((0 : Int) < r))) = ((decide ((0 : Int) < r)) && (if (m = (1 : Int)) then neg else (!neg))))
    (cnd neg
      ((decide ((Go.IntKind.wrap Go.IntKind.u64 (c - r)) < r)) = ((decide ((0 : Int) < r)) && (if (m = (1 : Int)) then neg else (!neg))))
      ((decide ((Go.IntKind.wrap Go.IntKind.u64 (c - r)) ≤ r)) = ((decide ((0 : Int) < r)) && (if (m = (1 : Int)) then neg else (!neg)))))))) = EXD Try.prog (conOf []) Try.f145 [.cel (.int .u64 r), .cel (.int .u64 c), .cel (.bool neg), .cel (.int .i64 m)] [] [] (rounded_res r c neg m) := by kernel_rfl
theorem rounded_holds (r : Int) (c : Int) (neg : Bool) (m : Int) (p0 : decide (1 ≤ m) = true) (p1 : decide (m ≤ 2) = true) : (cnd (decide (m = (1 : Int)))
  ((neg && (decide ((0 : Int) < r))) = ((decide ((0 : Int) < r)) && (if (m = (1 : Int)) then neg else (!neg))))
  (cnd (decide (m = (2 : Int)))
    (((!neg) && (decide ((0 : Int) < r))) = ((decide ((0 : Int) < r)) && (if (m = (1 : Int)) then neg else (!neg))))
    (cnd neg
      ((decide ((Go.IntKind.wrap Go.IntKind.u64 (c - r)) < r)) = ((decide ((0 : Int) < r)) && (if (m = (1 : Int)) then neg else (!neg))))
      ((decide ((Go.IntKind.wrap Go.IntKind.u64 (c - r)) ≤ r)) = ((decide ((0 : Int) < r)) && (if (m = (1 : Int)) then neg else (!neg))))))) := by
  simp only [Bool.and_eq_true, Bool.or_eq_true, Bool.not_eq_true', Bool.and_eq_false_iff, Bool.or_eq_false_iff, Bool.not_eq_false', decide_eq_true_eq, decide_eq_false_iff_not, Bool.not_eq_true, Bool.not_eq_false, ne_eq, gt_iff_lt, ge_iff_le, Decidable.not_not] at p0 p1
  (repeat' (first | with_reducible rfl | trivial | (refine cnd_i (fun h => ?_) (fun h => ?_)) | (refine And.intro ?_ ?_) | (intro h)))
  all_goals (simp only [Bool.and_eq_true, Bool.or_eq_true, Bool.not_eq_true', Bool.and_eq_false_iff, Bool.or_eq_false_iff, Bool.not_eq_false', decide_eq_true_eq, decide_eq_false_iff_not, Bool.not_eq_true, Bool.not_eq_false, ne_eq, gt_iff_lt, ge_iff_le, Decidable.not_not] at *)
  all_goals (try (exfalso; omega))
  · subst h; simp [Bool.and_comm]
  · subst h; simp [Bool.and_comm]
set_option maxHeartbeats 2000000 in
theorem rounded_ok : SoundEnt Try.prog rounded_e := by
  refine ent_of_ex (Γ := (conOf [])) (conOf_sound snil) (by kernel_rfl) Try.func145 (by kernel_rfl) (by kernel_rfl) (fun args rows caps res h ho => ?_)
  change rounded_go args rows caps = some res at h
  unfold rounded_go at h
  split at h
  · simp only [Option.some.injEq] at h
    subst h
    rename_i q0_ q1_ q2_ q3_
    obtain ⟨p0, p1, _⟩ := ho
    exact EX.of (rounded_tree q0_ q1_ q2_ q3_) (rounded_holds q0_ q1_ q2_ q3_ p0 p1)
  · cases h
def muldiv_res (a : Int) (c : Int) (m : Int) : CRes := ⟨[decide (1 ≤ m), decide (m ≤ 2), inBig a, decide (1 ≤ c), inBig c], .tup [.cel (.int .i64 (rdiv a c m)), .cel (.int .i64 (0))], []⟩
def muldiv_go : List TV → List RowA → List (List CV) → Option CRes := fun args rows caps =>
  match args, rows, caps with
  | [.cel (.int .i64 a), .cel (.int .i64 1), .cel (.int .i64 c), .cel (.int .i64 m)], [], [] => some (muldiv_res a c m)
  | _, _, _ => none
def muldiv_e : Ent := ⟨139, [], muldiv_go⟩
set_option maxRecDepth 100000 in
theorem muldiv_tree (a : Int) (c : Int) (m : Int) : ((cnd ((decide (m < (1 : Int))) || (decide ((3 : Int) < m)))
  (((0 : Int) = (rdiv a c m)) ∧ ((1 : Int) = (0 : Int)))
  (cnd (decide (c = (0 : Int)))
    (((0 : Int) = (rdiv a c m)) ∧ ((10 : Int) = (0 : Int)))
    (cnd (in64 a)
      (cnd (inu64 (iabs a))
        (cnd (in64 c)
          (cnd (decide ((iabs c) ≤ (0 : Int)))
            (((0 : Int) = (rdiv a c m)) ∧ ((9 : Int) = (0 : Int)))
            (cnd (inu64 (iabs a))
              (cnd (decide ((1 : Int) ≤ (iabs c)))
                (cnd (inu64 (iabs c))
                  (cnd (decide ((9223372036854775808 : Int) < ((iabs a) / (iabs c))))
                    (((0 : Int) = (rdiv a c m)) ∧ ((9 : Int) = (0 : Int)))
                    (cnd (decide ((1 : Int) ≤ m))
                      (cnd (decide (m ≤ (2 : Int)))
                        (cnd ((decide ((0 : Int) < ((iabs a) % (iabs c)))) && (if (m = (1 : Int)) then (!((!((decide (a < (0 : Int))) == (decide ((1 : Int) < (0 : Int))))) == (decide (c < (0 : Int))))) else (!(!((!((decide (a < (0 : Int))) == (decide ((1 : Int) < (0 : Int))))) == (decide (c < (0 : Int))))))))
                          (cnd ((!((!((decide (a < (0 : Int))) == (decide ((1 : Int) < (0 : Int))))) == (decide (c < (0 : Int))))) && (decide ((Go.IntKind.wrap Go.IntKind.u64 (((iabs a) / (iabs c)) + (1 : Int))) ≤ (9223372036854775808 : Int))))
                            (((Go.IntKind.wrap Go.IntKind.i64 ((Go.IntKind.wrap Go.IntKind.i64 ((0 : Int) - (Go.IntKind.wrap Go.IntKind.i64 (Go.IntKind.wrap Go.IntKind.u64 ((Go.IntKind.wrap Go.IntKind.u64 (((iabs a) / (iabs c)) + (1 : Int))) - (1 : Int)))))) - (1 : Int))) = (rdiv a c m)) ∧ ((0 : Int) = (0 : Int)))
                            (cnd ((!(!((!((decide (a < (0 : Int))) == (decide ((1 : Int) < (0 : Int))))) == (decide (c < (0 : Int)))))) && (decide ((Go.IntKind.wrap Go.IntKind.u64 (((iabs a) / (iabs c)) + (1 : Int))) < (9223372036854775808 : Int))))
                              (((Go.IntKind.wrap Go.IntKind.i64 (Go.IntKind.wrap Go.IntKind.u64 (((iabs a) / (iabs c)) + (1 : Int)))) = (rdiv a c m)) ∧ ((0 : Int) = (0 : Int)))
                              (((0 : Int) = (rdiv a c m)) ∧ ((9 : Int) = (0 : Int)))))
                          (cnd ((!((!((decide (a < (0 : Int))) == (decide ((1 : Int) < (0 : Int))))) == (decide (c < (0 : Int))))) && (decide (((iabs a) / (iabs c)) ≤ (9223372036854775808 : Int))))
                            (((Go.IntKind.wrap Go.IntKind.i64 ((Go.IntKind.wrap Go.IntKind.i64 ((0 : Int) - (Go.IntKind.wrap Go.IntKind.i64 (Go.IntKind.wrap Go.IntKind.u64 (((iabs a) / (iabs c)) - (1 : Int)))))) - (1 : Int))) = (rdiv a c m)) ∧ ((0 : Int) = (0 : Int)))
                            (cnd ((!(!((!((decide (a < (0 : Int))) == (decide ((1 : Int) < (0 : Int))))) == (decide (c < (0 : Int)))))) && (decide (((iabs a) / (iabs c)) < (9223372036854775808 : Int))))
                              (((Go.IntKind.wrap Go.IntKind.i64 ((iabs a) / (iabs c))) = (rdiv a c m)) ∧ ((0 : Int) = (0 : Int)))
                              (((0 : Int) = (rdiv a c m)) ∧ ((9 : Int) = (0 : Int))))))
                        False)
                      False))
                  False)
                False)
              False))
          False)
        False)
      False)))) = EXD Try.prog (conOf [mul64_e, div64_e, magnitude_e, rounded_e]) Try.f139 [.cel (.int .i64 a), .cel (.int .i64 1), .cel (.int .i64 c), .cel (.int .i64 m)] [] [] (muldiv_res a c m) := by kernel_rfl
theorem muldiv_holds (a : Int) (c : Int) (m : Int) (p0 : decide (1 ≤ m) = true) (p1 : decide (m ≤ 2) = true) (p2 : inBig a = true) (p3 : decide (1 ≤ c) = true) (p4 : inBig c = true) : (cnd ((decide (m < (1 : Int))) || (decide ((3 : Int) < m)))
  (((0 : Int) = (rdiv a c m)) ∧ ((1 : Int) = (0 : Int)))
  (cnd (decide (c = (0 : Int)))
    (((0 : Int) = (rdiv a c m)) ∧ ((10 : Int) = (0 : Int)))
    (cnd (in64 a)
      (cnd (inu64 (iabs a))
        (cnd (in64 c)
          (cnd (decide ((iabs c) ≤ (0 : Int)))
            (((0 : Int) = (rdiv a c m)) ∧ ((9 : Int) = (0 : Int)))
            (cnd (inu64 (iabs a))
              (cnd (decide ((1 : Int) ≤ (iabs c)))
                (cnd (inu64 (iabs c))
                  (cnd (decide ((9223372036854775808 : Int) < ((iabs a) / (iabs c))))
                    (((0 : Int) = (rdiv a c m)) ∧ ((9 : Int) = (0 : Int)))
                    (cnd (decide ((1 : Int) ≤ m))
                      (cnd (decide (m ≤ (2 : Int)))
                        (cnd ((decide ((0 : Int) < ((iabs a) % (iabs c)))) && (if (m = (1 : Int)) then (!((!((decide (a < (0 : Int))) == (decide ((1 : Int) < (0 : Int))))) == (decide (c < (0 : Int))))) else (!(!((!((decide (a < (0 : Int))) == (decide ((1 : Int) < (0 : Int))))) == (decide (c < (0 : Int))))))))
                          (cnd ((!((!((decide (a < (0 : Int))) == (decide ((1 : Int) < (0 : Int))))) == (decide (c < (0 : Int))))) && (decide ((Go.IntKind.wrap Go.IntKind.u64 (((iabs a) / (iabs c)) + (1 : Int))) ≤ (9223372036854775808 : Int))))
                            (((Go.IntKind.wrap Go.IntKind.i64 ((Go.IntKind.wrap Go.IntKind.i64 ((0 : Int) - (Go.IntKind.wrap Go.IntKind.i64 (Go.IntKind.wrap Go.IntKind.u64 ((Go.IntKind.wrap Go.IntKind.u64 (((iabs a) / (iabs c)) + (1 : Int))) - (1 : Int)))))) - (1 : Int))) = (rdiv a c m)) ∧ ((0 : Int) = (0 : Int)))
                            (cnd ((!(!((!((decide (a < (0 : Int))) == (decide ((1 : Int) < (0 : Int))))) == (decide (c < (0 : Int)))))) && (decide ((Go.IntKind.wrap Go.IntKind.u64 (((iabs a) / (iabs c)) + (1 : Int))) < (9223372036854775808 : Int))))
                              (((Go.IntKind.wrap Go.IntKind.i64 (Go.IntKind.wrap Go.IntKind.u64 (((iabs a) / (iabs c)) + (1 : Int)))) = (rdiv a c m)) ∧ ((0 : Int) = (0 : Int)))
                              (((0 : Int) = (rdiv a c m)) ∧ ((9 : Int) = (0 : Int)))))
                          (cnd ((!((!((decide (a < (0 : Int))) == (decide ((1 : Int) < (0 : Int))))) == (decide (c < (0 : Int))))) && (decide (((iabs a) / (iabs c)) ≤ (9223372036854775808 : Int))))
                            (((Go.IntKind.wrap Go.IntKind.i64 ((Go.IntKind.wrap Go.IntKind.i64 ((0 : Int) - (Go.IntKind.wrap Go.IntKind.i64 (Go.IntKind.wrap Go.IntKind.u64 (((iabs a) / (iabs c)) - (1 : Int)))))) - (1 : Int))) = (rdiv a c m)) ∧ ((0 : Int) = (0 : Int)))
                            (cnd ((!(!((!((decide (a < (0 : Int))) == (decide ((1 : Int) < (0 : Int))))) == (decide (c < (0 : Int)))))) && (decide (((iabs a) / (iabs c)) < (9223372036854775808 : Int))))
                              (((Go.IntKind.wrap Go.IntKind.i64 ((iabs a) / (iabs c))) = (rdiv a c m)) ∧ ((0 : Int) = (0 : Int)))
                              (((0 : Int) = (rdiv a c m)) ∧ ((9 : Int) = (0 : Int))))))
                        False)
                      False))
                  False)
                False)
              False))
          False)
        False)
      False))) := by
  rw [inBig_iff] at p2 p4
  simp only [decide_eq_true_eq] at p0 p1 p3
  have hc : iabs c = c := by unfold iabs; rw [if_neg (by omega)]
  have ha : 0 ≤ iabs a ∧ iabs a ≤ 4611686018427387904 := by unfold iabs; split <;> omega
  have hq := quo_pos ha.1 p3
  have i1 : in64 a = true := in64_iff.2 (by omega)
  have i2 : inu64 (iabs a) = true := inu64_iff.2 (by omega)
  have i3 : in64 c = true := in64_iff.2 (by omega)
  have i4 : inu64 c = true := inu64_iff.2 (by omega)
  have hr : rdiv a c m = if m = 1 then (if a < 0 then (if iabs a % c = 0 then -(iabs a / c) else -(iabs a / c) - 1) else iabs a / c) else (if a < 0 then -(iabs a / c) else (if iabs a % c = 0 then iabs a / c else iabs a / c + 1)) := by
    unfold rdiv
    by_cases hm : m = 1
    · rw [if_pos hm, if_pos hm]
      by_cases hn : a < 0
      · have e : iabs a = -a := by unfold iabs; rw [if_pos hn]
        rw [if_pos hn, e, ← neg_quo (-a) c p3, Int.neg_neg]
      · have e : iabs a = a := by unfold iabs; rw [if_neg hn]
        rw [if_neg hn, e]
    · rw [if_neg hm, if_neg hm]
      by_cases hn : a < 0
      · have e : iabs a = -a := by unfold iabs; rw [if_pos hn]
        rw [if_pos hn, e]
      · have e : iabs a = a := by unfold iabs; rw [if_neg hn]
        rw [if_neg hn, e, neg_quo a c p3]
        split <;> omega
  rw [hc, i1, i2, i3, i4, hr]
  have hm : m = 1 ∨ m = 2 := by omega
  generalize iabs a / c = q at *
  generalize iabs a % c = r at *
  have j1 : decide ((1 : Int) < 0) = false := rfl
  have j2 : decide (c < (0 : Int)) = false := by simp; omega
  rw [j1, j2]
  clear hr i1 i2 i3 i4
  by_cases hn : a < 0
  · have j3 : decide (a < 0) = true := by simpa using hn
    rw [j3, show (!((!(true == false)) == false)) = true from rfl]
    clear j1 j2 j3
    simp only [if_pos hn]
    rcases hm with rfl | rfl
    · (repeat' (first | with_reducible rfl | trivial | (refine cnd_i (fun h => ?_) (fun h => ?_)) | (refine And.intro ?_ ?_) | (intro h)))
      all_goals (simp only [Bool.and_eq_true, Bool.or_eq_true, Bool.not_eq_true', Bool.and_eq_false_iff, Bool.or_eq_false_iff, Bool.not_eq_false', decide_eq_true_eq, decide_eq_false_iff_not, Bool.not_eq_true, Bool.not_eq_false, ne_eq, gt_iff_lt, ge_iff_le, Decidable.not_not, IntKind.wrap_i64, IntKind.wrap_u64, reduceCtorEq, not_true_eq_false, not_false_eq_true, Bool.not_true, Bool.not_false, if_true, Bool.and_true, Bool.true_and, Bool.false_and, Bool.and_false] at *)
      all_goals (try omega)
      all_goals (split <;> omega)
    · (repeat' (first | with_reducible rfl | trivial | (refine cnd_i (fun h => ?_) (fun h => ?_)) | (refine And.intro ?_ ?_) | (intro h)))
      all_goals (simp only [Bool.and_eq_true, Bool.or_eq_true, Bool.not_eq_true', Bool.and_eq_false_iff, Bool.or_eq_false_iff, Bool.not_eq_false', decide_eq_true_eq, decide_eq_false_iff_not, Bool.not_eq_true, Bool.not_eq_false, ne_eq, gt_iff_lt, ge_iff_le, Decidable.not_not, IntKind.wrap_i64, IntKind.wrap_u64, reduceCtorEq, not_true_eq_false, not_false_eq_true, Bool.not_true, Bool.not_false, Int.reduceEq, if_false, Bool.and_true, Bool.true_and, Bool.false_and, Bool.and_false] at *)
      all_goals (try omega)
  · have j3 : decide (a < 0) = false := by simpa using hn
    rw [j3, show (!((!(false == false)) == false)) = false from rfl]
    clear j1 j2 j3
    simp only [if_neg hn]
    rcases hm with rfl | rfl
    · (repeat' (first | with_reducible rfl | trivial | (refine cnd_i (fun h => ?_) (fun h => ?_)) | (refine And.intro ?_ ?_) | (intro h)))
      all_goals (simp only [Bool.and_eq_true, Bool.or_eq_true, Bool.not_eq_true', Bool.and_eq_false_iff, Bool.or_eq_false_iff, Bool.not_eq_false', decide_eq_true_eq, decide_eq_false_iff_not, Bool.not_eq_true, Bool.not_eq_false, ne_eq, gt_iff_lt, ge_iff_le, Decidable.not_not, IntKind.wrap_i64, IntKind.wrap_u64, reduceCtorEq, not_true_eq_false, not_false_eq_true, Bool.not_true, Bool.not_false, if_true, Bool.and_true, Bool.true_and, Bool.false_and, Bool.and_false] at *)
      all_goals (try omega)
    · (repeat' (first | with_reducible rfl | trivial | (refine cnd_i (fun h => ?_) (fun h => ?_)) | (refine And.intro ?_ ?_) | (intro h)))
      all_goals (simp only [Bool.and_eq_true, Bool.or_eq_true, Bool.not_eq_true', Bool.and_eq_false_iff, Bool.or_eq_false_iff, Bool.not_eq_false', decide_eq_true_eq, decide_eq_false_iff_not, Bool.not_eq_true, Bool.not_eq_false, ne_eq, gt_iff_lt, ge_iff_le, Decidable.not_not, IntKind.wrap_i64, IntKind.wrap_u64, reduceCtorEq, not_true_eq_false, not_false_eq_true, Bool.not_true, Bool.not_false, Int.reduceEq, if_false, Bool.and_true, Bool.true_and, Bool.false_and, Bool.and_false] at *)
      all_goals (try omega)
      all_goals (split <;> omega)
set_option maxHeartbeats 2000000 in
theorem muldiv_ok : SoundEnt Try.prog muldiv_e := by
  refine ent_of_ex (Γ := (conOf [mul64_e, div64_e, magnitude_e, rounded_e])) (conOf_sound (scons mul64_ok (scons div64_ok (scons magnitude_ok (scons rounded_ok snil))))) (by kernel_rfl) Try.func139 (by kernel_rfl) (by kernel_rfl) (fun args rows caps res h ho => ?_)
  change muldiv_go args rows caps = some res at h
  unfold muldiv_go at h
  split at h
  · simp only [Option.some.injEq] at h
    subst h
    rename_i q0_ q1_ q2_
    obtain ⟨p0, p1, p2, p3, p4, _⟩ := ho
    exact EX.of (muldiv_tree q0_ q1_ q2_) (muldiv_holds q0_ q1_ q2_ p0 p1 p2 p3 p4)
  · cases h
def div_res (a : Int) (c : Int) (m : Int) : CRes := ⟨[decide (1 ≤ m), decide (m ≤ 2), inBig a, decide (1 ≤ c), inBig c], .tup [.cel (.int .i64 (rdiv a c m)), .cel (.int .i64 (0))], []⟩
def div_go : List TV → List RowA → List (List CV) → Option CRes := fun args rows caps =>
  match args, rows, caps with
  | [.cel (.int .i64 a), .cel (.int .i64 c), .cel (.int .i64 m)], [], [] => some (div_res a c m)
  | _, _, _ => none
def div_e : Ent := ⟨131, [], div_go⟩
set_option maxRecDepth 100000 in
theorem div_tree (a : Int) (c : Int) (m : Int) : ((cnd (decide ((1 : Int) ≤ m))
  (cnd (decide (m ≤ (2 : Int)))
    (cnd (inBig a)
      (cnd (decide ((1 : Int) ≤ c))
        (cnd (inBig c)
          (((rdiv a c m) = (rdiv a c m)) ∧ ((0 : Int) = (0 : Int)))
          False)
        False)
      False)
    False)
  False)) = EXD Try.prog (conOf [muldiv_e]) Try.f131 [.cel (.int .i64 a), .cel (.int .i64 c), .cel (.int .i64 m)] [] [] (div_res a c m) := by kernel_rfl
theorem div_holds (a : Int) (c : Int) (m : Int) (p0 : decide (1 ≤ m) = true) (p1 : decide (m ≤ 2) = true) (p2 : inBig a = true) (p3 : decide (1 ≤ c) = true) (p4 : inBig c = true) : (cnd (decide ((1 : Int) ≤ m))
  (cnd (decide (m ≤ (2 : Int)))
    (cnd (inBig a)
      (cnd (decide ((1 : Int) ≤ c))
        (cnd (inBig c)
          (((rdiv a c m) = (rdiv a c m)) ∧ ((0 : Int) = (0 : Int)))
          False)
        False)
      False)
    False)
  False) := by
  (repeat' (first | with_reducible rfl | trivial | (refine cnd_i (fun h => ?_) (fun h => ?_)) | (refine And.intro ?_ ?_) | (intro h)))
  all_goals (simp_all)
set_option maxHeartbeats 2000000 in
theorem div_ok : SoundEnt Try.prog div_e := by
  refine ent_of_ex (Γ := (conOf [muldiv_e])) (conOf_sound (scons muldiv_ok snil)) (by kernel_rfl) Try.func131 (by kernel_rfl) (by kernel_rfl) (fun args rows caps res h ho => ?_)
  change div_go args rows caps = some res at h
  unfold div_go at h
  split at h
  · simp only [Option.some.injEq] at h
    subst h
    rename_i q0_ q1_ q2_
    obtain ⟨p0, p1, p2, p3, p4, _⟩ := ho
    exact EX.of (div_tree q0_ q1_ q2_) (div_holds q0_ q1_ q2_ p0 p1 p2 p3 p4)
  · cases h
end Go.Proofs.Ythfliohfkhnpiaa

