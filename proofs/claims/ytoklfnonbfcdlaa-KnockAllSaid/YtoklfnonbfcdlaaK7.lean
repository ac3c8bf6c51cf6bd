/- bits.Mul of one and a number. -/
import Derived.Test.YtoklfnonbfcdlaaK4
namespace Go.Proofs.Ytoklfnonbfcdlaa
set_option linter.unusedVariables false
set_option linter.unusedSimpArgs false
open Go.RowKit
def mulone_res (x : Int) : CRes := ⟨[inu64 x], .tup [.cel (.int .u64 (0)), .cel (.int .u64 (x))], []⟩
def mulone_go : List TV → List RowA → List (List CV) → Option CRes := fun args rows caps =>
  match args, rows, caps with
  | [.cel (.int .u64 1), .cel (.int .u64 x)], [], [] => some (mulone_res x)
  | _, _, _ => none
def mulone_e : Ent := ⟨43, [], mulone_go⟩
set_option maxRecDepth 100000 in
theorem mulone_tree (x : Int) : ((((Go.IntKind.wrap Go.IntKind.u64 ((Go.IntKind.wrap Go.IntKind.u64 ((Go.IntKind.wrap Go.IntKind.u64 ((Int.fdiv (1 : Int) ((2 : Int) ^ (Min.min (Int.toNat (32 : Int)) (Go.IntKind.bits Go.IntKind.u64)))) * (Int.fdiv x ((2 : Int) ^ (Min.min (Int.toNat (32 : Int)) (Go.IntKind.bits Go.IntKind.u64)))))) + (Int.fdiv (Go.IntKind.wrap Go.IntKind.u64 ((Go.IntKind.wrap Go.IntKind.u64 ((Int.fdiv (1 : Int) ((2 : Int) ^ (Min.min (Int.toNat (32 : Int)) (Go.IntKind.bits Go.IntKind.u64)))) * (Go.IntKind.wrap Go.IntKind.u64 (((BitVec.toNat ((BitVec.ofInt (Go.IntKind.bits Go.IntKind.u64) x) &&& (BitVec.ofInt (Go.IntKind.bits Go.IntKind.u64) (4294967295 : Int)))) : Nat) : Int)))) + (Int.fdiv (Go.IntKind.wrap Go.IntKind.u64 ((Go.IntKind.wrap Go.IntKind.u64 (((BitVec.toNat ((BitVec.ofInt (Go.IntKind.bits Go.IntKind.u64) (1 : Int)) &&& (BitVec.ofInt (Go.IntKind.bits Go.IntKind.u64) (4294967295 : Int)))) : Nat) : Int)) * (Go.IntKind.wrap Go.IntKind.u64 (((BitVec.toNat ((BitVec.ofInt (Go.IntKind.bits Go.IntKind.u64) x) &&& (BitVec.ofInt (Go.IntKind.bits Go.IntKind.u64) (4294967295 : Int)))) : Nat) : Int)))) ((2 : Int) ^ (Min.min (Int.toNat (32 : Int)) (Go.IntKind.bits Go.IntKind.u64)))))) ((2 : Int) ^ (Min.min (Int.toNat (32 : Int)) (Go.IntKind.bits Go.IntKind.u64)))))) + (Int.fdiv (Go.IntKind.wrap Go.IntKind.u64 ((Go.IntKind.wrap Go.IntKind.u64 (((BitVec.toNat ((BitVec.ofInt (Go.IntKind.bits Go.IntKind.u64) (Go.IntKind.wrap Go.IntKind.u64 ((Go.IntKind.wrap Go.IntKind.u64 ((Int.fdiv (1 : Int) ((2 : Int) ^ (Min.min (Int.toNat (32 : Int)) (Go.IntKind.bits Go.IntKind.u64)))) * (Go.IntKind.wrap Go.IntKind.u64 (((BitVec.toNat ((BitVec.ofInt (Go.IntKind.bits Go.IntKind.u64) x) &&& (BitVec.ofInt (Go.IntKind.bits Go.IntKind.u64) (4294967295 : Int)))) : Nat) : Int)))) + (Int.fdiv (Go.IntKind.wrap Go.IntKind.u64 ((Go.IntKind.wrap Go.IntKind.u64 (((BitVec.toNat ((BitVec.ofInt (Go.IntKind.bits Go.IntKind.u64) (1 : Int)) &&& (BitVec.ofInt (Go.IntKind.bits Go.IntKind.u64) (4294967295 : Int)))) : Nat) : Int)) * (Go.IntKind.wrap Go.IntKind.u64 (((BitVec.toNat ((BitVec.ofInt (Go.IntKind.bits Go.IntKind.u64) x) &&& (BitVec.ofInt (Go.IntKind.bits Go.IntKind.u64) (4294967295 : Int)))) : Nat) : Int)))) ((2 : Int) ^ (Min.min (Int.toNat (32 : Int)) (Go.IntKind.bits Go.IntKind.u64))))))) &&& (BitVec.ofInt (Go.IntKind.bits Go.IntKind.u64) (4294967295 : Int)))) : Nat) : Int)) + (Go.IntKind.wrap Go.IntKind.u64 ((Go.IntKind.wrap Go.IntKind.u64 (((BitVec.toNat ((BitVec.ofInt (Go.IntKind.bits Go.IntKind.u64) (1 : Int)) &&& (BitVec.ofInt (Go.IntKind.bits Go.IntKind.u64) (4294967295 : Int)))) : Nat) : Int)) * (Int.fdiv x ((2 : Int) ^ (Min.min (Int.toNat (32 : Int)) (Go.IntKind.bits Go.IntKind.u64)))))))) ((2 : Int) ^ (Min.min (Int.toNat (32 : Int)) (Go.IntKind.bits Go.IntKind.u64)))))) = (0 : Int)) ∧ ((Go.IntKind.wrap Go.IntKind.u64 ((1 : Int) * x)) = x))) = EXD Try.prog (conOf []) Try.f43 [.cel (.int .u64 1), .cel (.int .u64 x)] [] [] (mulone_res x) := by kernel_rfl
theorem mulone_holds (x : Int) (p0 : (inu64 x) = true) : (((Go.IntKind.wrap Go.IntKind.u64 ((Go.IntKind.wrap Go.IntKind.u64 ((Go.IntKind.wrap Go.IntKind.u64 ((Int.fdiv (1 : Int) ((2 : Int) ^ (Min.min (Int.toNat (32 : Int)) (Go.IntKind.bits Go.IntKind.u64)))) * (Int.fdiv x ((2 : Int) ^ (Min.min (Int.toNat (32 : Int)) (Go.IntKind.bits Go.IntKind.u64)))))) + (Int.fdiv (Go.IntKind.wrap Go.IntKind.u64 ((Go.IntKind.wrap Go.IntKind.u64 ((Int.fdiv (1 : Int) ((2 : Int) ^ (Min.min (Int.toNat (32 : Int)) (Go.IntKind.bits Go.IntKind.u64)))) * (Go.IntKind.wrap Go.IntKind.u64 (((BitVec.toNat ((BitVec.ofInt (Go.IntKind.bits Go.IntKind.u64) x) &&& (BitVec.ofInt (Go.IntKind.bits Go.IntKind.u64) (4294967295 : Int)))) : Nat) : Int)))) + (Int.fdiv (Go.IntKind.wrap Go.IntKind.u64 ((Go.IntKind.wrap Go.IntKind.u64 (((BitVec.toNat ((BitVec.ofInt (Go.IntKind.bits Go.IntKind.u64) (1 : Int)) &&& (BitVec.ofInt (Go.IntKind.bits Go.IntKind.u64) (4294967295 : Int)))) : Nat) : Int)) * (Go.IntKind.wrap Go.IntKind.u64 (((BitVec.toNat ((BitVec.ofInt (Go.IntKind.bits Go.IntKind.u64) x) &&& (BitVec.ofInt (Go.IntKind.bits Go.IntKind.u64) (4294967295 : Int)))) : Nat) : Int)))) ((2 : Int) ^ (Min.min (Int.toNat (32 : Int)) (Go.IntKind.bits Go.IntKind.u64)))))) ((2 : Int) ^ (Min.min (Int.toNat (32 : Int)) (Go.IntKind.bits Go.IntKind.u64)))))) + (Int.fdiv (Go.IntKind.wrap Go.IntKind.u64 ((Go.IntKind.wrap Go.IntKind.u64 (((BitVec.toNat ((BitVec.ofInt (Go.IntKind.bits Go.IntKind.u64) (Go.IntKind.wrap Go.IntKind.u64 ((Go.IntKind.wrap Go.IntKind.u64 ((Int.fdiv (1 : Int) ((2 : Int) ^ (Min.min (Int.toNat (32 : Int)) (Go.IntKind.bits Go.IntKind.u64)))) * (Go.IntKind.wrap Go.IntKind.u64 (((BitVec.toNat ((BitVec.ofInt (Go.IntKind.bits Go.IntKind.u64) x) &&& (BitVec.ofInt (Go.IntKind.bits Go.IntKind.u64) (4294967295 : Int)))) : Nat) : Int)))) + (Int.fdiv (Go.IntKind.wrap Go.IntKind.u64 ((Go.IntKind.wrap Go.IntKind.u64 (((BitVec.toNat ((BitVec.ofInt (Go.IntKind.bits Go.IntKind.u64) (1 : Int)) &&& (BitVec.ofInt (Go.IntKind.bits Go.IntKind.u64) (4294967295 : Int)))) : Nat) : Int)) * (Go.IntKind.wrap Go.IntKind.u64 (((BitVec.toNat ((BitVec.ofInt (Go.IntKind.bits Go.IntKind.u64) x) &&& (BitVec.ofInt (Go.IntKind.bits Go.IntKind.u64) (4294967295 : Int)))) : Nat) : Int)))) ((2 : Int) ^ (Min.min (Int.toNat (32 : Int)) (Go.IntKind.bits Go.IntKind.u64))))))) &&& (BitVec.ofInt (Go.IntKind.bits Go.IntKind.u64) (4294967295 : Int)))) : Nat) : Int)) + (Go.IntKind.wrap Go.IntKind.u64 ((Go.IntKind.wrap Go.IntKind.u64 (((BitVec.toNat ((BitVec.ofInt (Go.IntKind.bits Go.IntKind.u64) (1 : Int)) &&& (BitVec.ofInt (Go.IntKind.bits Go.IntKind.u64) (4294967295 : Int)))) : Nat) : Int)) * (Int.fdiv x ((2 : Int) ^ (Min.min (Int.toNat (32 : Int)) (Go.IntKind.bits Go.IntKind.u64)))))))) ((2 : Int) ^ (Min.min (Int.toNat (32 : Int)) (Go.IntKind.bits Go.IntKind.u64)))))) = (0 : Int)) ∧ ((Go.IntKind.wrap Go.IntKind.u64 ((1 : Int) * x)) = x)) := by
  rw [inu64_iff] at p0
  obtain ⟨a0, a1⟩ := p0
  have e2 : ((2 : Int) ^ (Min.min (Int.toNat (32 : Int)) (Go.IntKind.bits .u64))) = 4294967296 := by decide +kernel
  have e3 : (1 : Int) % 4294967296 = 1 := by decide
  have e4 : (1 : Int) / 4294967296 = 0 := by decide
  refine ⟨?_, by rw [Int.one_mul, wu64 a0 a1]⟩
  rw [e2]
  simp only [fdiv32]
  rw [and32w (x := 1) (by decide) (by decide), and32w a0 a1, e3, e4]
  simp only [Int.one_mul, Int.zero_mul, IntKind.wrap_u64]
  have e5 : ((0 : Int) % 18446744073709551616 + ((x % 4294967296) % 18446744073709551616) / 4294967296) % 18446744073709551616 = 0 := by omega
  rw [e5]
  have e6 := and32w (x := 0) (by decide) (by decide)
  rw [IntKind.wrap_u64] at e6
  rw [e6]
  omega
set_option maxHeartbeats 2000000 in
theorem mulone_ok : SoundEnt Try.prog mulone_e := by
  refine ent_of_ex (Γ := (conOf [])) (conOf_sound snil) (by kernel_rfl) Try.func43 (by kernel_rfl) (by kernel_rfl) (fun args rows caps res h ho => ?_)
  change mulone_go args rows caps = some res at h
  unfold mulone_go at h
  split at h
  · simp only [Option.some.injEq] at h
    subst h
    rename_i q0_
    obtain ⟨p0, _⟩ := ho
    exact EX.of (mulone_tree q0_) (mulone_holds q0_ p0)
  · cases h
def bmul_res (x : Int) : CRes := ⟨[inu64 x], .tup [.cel (.int .u64 (0)), .cel (.int .u64 (x))], []⟩
def bmul_go : List TV → List RowA → List (List CV) → Option CRes := fun args rows caps =>
  match args, rows, caps with
  | [.cel (.int .u64 1), .cel (.int .u64 x)], [], [] => some (bmul_res x)
  | _, _, _ => none
def bmul_e : Ent := ⟨36, [], bmul_go⟩
set_option maxRecDepth 100000 in
theorem bmul_tree (x : Int) : ((cnd (inu64 x)
  (((0 : Int) = (0 : Int)) ∧ (x = x))
  False)) = EXD Try.prog (conOf [mulone_e]) Try.f36 [.cel (.int .u64 1), .cel (.int .u64 x)] [] [] (bmul_res x) := by kernel_rfl
theorem bmul_holds (x : Int) (p0 : (inu64 x) = true) : (cnd (inu64 x)
  (((0 : Int) = (0 : Int)) ∧ (x = x))
  False) := by
  rw [p0]
  exact ⟨rfl, rfl⟩
set_option maxHeartbeats 2000000 in
theorem bmul_ok : SoundEnt Try.prog bmul_e := by
  refine ent_of_ex (Γ := (conOf [mulone_e])) (conOf_sound (scons mulone_ok snil)) (by kernel_rfl) Try.func36 (by kernel_rfl) (by kernel_rfl) (fun args rows caps res h ho => ?_)
  change bmul_go args rows caps = some res at h
  unfold bmul_go at h
  split at h
  · simp only [Option.some.injEq] at h
    subst h
    rename_i q0_
    obtain ⟨p0, _⟩ := ho
    exact EX.of (bmul_tree q0_) (bmul_holds q0_ p0)
  · cases h
/-- bits.Mul of one, as a call. -/
theorem bmul_call {x : Int} (hx : inu64 x = true) (w : World) : Calls Try.prog 36 #[.int .u64 1, .int .u64 x] w fun e w' => e = .returned (.tuple #[.int .u64 0, .int .u64 x]) ∧ Below w.heap.size w w' := by
  refine ((bmul_ok [.cel (.int .u64 1), .cel (.int .u64 x)] [] [] (bmul_res x) rfl ⟨hx, trivial⟩ w [] [] [.int .u64 1, .int .u64 x] ⟨rfl, fun _ _ _ h => by simp at h⟩ ⟨rfl, fun _ _ _ h => by simp at h, List.nodup_nil, fun _ _ _ h => by simp at h⟩ ⟨rfl, rfl, trivial⟩).2).mono ?_
  rintro e w' ⟨v, ρ, rfl, hb, hd, _⟩
  refine ⟨?_, hb⟩
  obtain ⟨vs, rfl, hd⟩ := hd
  match vs, hd with
  | [a, b], hd =>
    obtain ⟨h1, h2, _⟩ := hd
    rw [show a = _ from h1, show b = _ from h2]
  | [], hd => exact hd.elim
  | [_], hd => exact hd.2.elim
  | _ :: _ :: _ :: _, hd => exact hd.2.2.elim
end Go.Proofs.Ytoklfnonbfcdlaa

