/- Contracts of the small functions of layer 19 (toothfilter) and of its reference. -/
import Derived.Test.YtnpoofddnmodoaaRows
import Derived.WalkKit
import Derived.WalkSpells
import Derived.StillTactics
import Derived.Deep.RegionHeld3
import Derived.Deep.QuietTactic
import Derived.BigQuiet
import Derived.RowKit3
import Derived.Below
import Derived.Lib.Hide
import Derived.Lib.QuietBelow
namespace Go.Proofs.Ytnpoofddnmodoaa
open Go.RowKit Go.Sort

def isTime (t : Int) : Bool := decide (0 ≤ t ∧ t ≤ 1099511627776)
def vld (sn : Bool) (la pe : Int) : Bool := decide (0 ≤ la ∧ la ≤ 1099511627776 ∧ 0 ≤ pe ∧ pe ≤ la ∧ (sn = true ∨ (la = 0 ∧ pe = 0)))
abbrev fl (sn : Bool) (la pe : Int) : Value := .agg #[.bool sn, .int .i64 la, .int .i64 pe]

theorem bcell {W w1 : World} (hb : Below W.heap.size W w1) : (∀ b o, b < W.heap.size → w1.cell? ⟨b, o, none⟩ = W.cell? ⟨b, o, none⟩) ∧ (∀ b o, b < W.heap.size → w1.frozen? ⟨b, o, none⟩ = W.frozen? ⟨b, o, none⟩) :=
  ⟨fun b o h => hb.cell (p := ⟨b, o, none⟩) h, fun b o h => hb.frozen (p := ⟨b, o, none⟩) h⟩

theorem wp_world {P : Program} {c : Code} {Q : Exit → Act → World → Prop} {a : Act} {W : World} (h : ∀ w1, Below W.heap.size W w1 → Code.wp P c Q a w1) : Code.wp P c Q a W := h W (Below.refl _ _)

theorem ret_bool {a b : Bool} (h : a = true ↔ b = true) : Ending.returned (.bool a) = .returned (.bool b) := by rw [Bool.eq_iff_iff.2 h]
theorem ret_int {k : IntKind} {a b : Int} (h : a = b) : Ending.returned (.int k a) = .returned (.int k b) := by rw [h]

theorem time_any (t : Int) (w : World) : Calls Try.prog 26 #[.int .i64 t] w fun e w' => e = .returned (.bool (isTime t)) ∧ w = w' := by
  go_enter Try.func26, Try.ntmps26
  go_wp2
  all_goals (go_ret; exact ⟨ret_bool (by simp [isTime] <;> omega), rfl⟩)

theorem rtime_any (t : Int) (w : World) : Calls Try.prog 13 #[.int .i64 t] w fun e w' => e = .returned (.bool (isTime t)) ∧ w = w' := by
  go_enter Try.func13, Try.ntmps13
  go_wp2
  all_goals (go_ret; exact ⟨ret_bool (by simp [isTime] <;> omega), rfl⟩)

theorem valid_any (sn : Bool) (la pe : Int) (w : World) : Calls Try.prog 21 #[fl sn la pe] w fun e w' => e = .returned (.bool (vld sn la pe)) ∧ Below w.heap.size w w' := by
  cases sn
  all_goals
    go_enter Try.func21, Try.ntmps21
    go_wp2
    all_goals (go_ret; exact ⟨ret_bool (by simp [vld] <;> omega), (Below.refl _ _).alloc (Nat.le_refl _) _⟩)

theorem rvalid_any (sn : Bool) (la pe : Int) (w : World) : Calls Try.prog 12 #[fl sn la pe] w fun e w' => e = .returned (.bool (vld sn la pe)) ∧ Below w.heap.size w w' := by
  cases sn
  all_goals
    go_enter Try.func12, Try.ntmps12
    go_wp2
    all_goals (go_ret; exact ⟨ret_bool (by simp [vld] <;> omega), (Below.refl _ _).alloc (Nat.le_refl _) _⟩)

def blk (sn : Bool) (la pe : Int) : Int := if vld sn la pe = true ∧ sn = true then (if pe / 4 > 20 then pe / 4 else 20) else 0

theorem blank_any (sn : Bool) (la pe : Int) (w : World) : Calls Try.prog 22 #[fl sn la pe] w fun e w' => e = .returned (.int .i64 (blk sn la pe)) ∧ Below w.heap.size w w' := by
  by_cases hv : vld sn la pe = true
  · have h0 : 0 ≤ pe := by simp [vld] at hv; omega
    have h1 : pe ≤ 1099511627776 := by simp [vld] at hv; omega
    have hb : sn = true → blk sn la pe = (if pe / 4 > 20 then pe / 4 else 20) := fun h => by unfold blk; rw [if_pos ⟨hv, h⟩]
    have hb0 : sn = false → blk sn la pe = 0 := fun h => by unfold blk; rw [if_neg (by simp [h])]
    cases sn
    · rw [hb0 rfl]
      clear hb hb0
      go_enter Try.func22, Try.ntmps22
      go_wp2_with (go_at_call 21; refine (valid_any _ _ _ _).mono ?_; rintro e w1 ⟨rfl, hb1⟩; obtain ⟨hc, hf⟩ := bcell hb1)
      go_ret
      exact ⟨rfl, ((Below.refl _ _).alloc (Nat.le_refl _) _).trans (hb1.mono (by simp))⟩
    · rw [hb rfl]
      clear hb hb0
      by_cases h20 : 20 < pe / 4
      · rw [if_pos h20]
        go_enter Try.func22, Try.ntmps22
        go_wp2_with (go_at_call 21; refine (valid_any _ _ _ _).mono ?_; rintro e w1 ⟨rfl, hb1⟩; obtain ⟨hc, hf⟩ := bcell hb1)
        go_ret
        exact ⟨ret_int (by omega), ((Below.refl _ _).alloc (Nat.le_refl _) _).trans (hb1.mono (by simp))⟩
      · rw [if_neg h20]
        go_enter Try.func22, Try.ntmps22
        go_wp2_with (go_at_call 21; refine (valid_any _ _ _ _).mono ?_; rintro e w1 ⟨rfl, hb1⟩; obtain ⟨hc, hf⟩ := bcell hb1)
        go_ret
        exact ⟨ret_int (by omega), ((Below.refl _ _).alloc (Nat.le_refl _) _).trans (hb1.mono (by simp))⟩
  · have hv' : vld sn la pe = false := by simpa using hv
    have hb0 : blk sn la pe = 0 := by unfold blk; rw [if_neg (by simp [hv'])]
    rw [hb0]
    clear hb0
    go_enter Try.func22, Try.ntmps22
    go_wp2_with (go_at_call 21; refine (valid_any _ _ _ _).mono ?_; rintro e w1 ⟨rfl, hb1⟩; obtain ⟨hc, hf⟩ := bcell hb1)
    go_ret
    exact ⟨rfl, ((Below.refl _ _).alloc (Nat.le_refl _) _).trans (hb1.mono (by simp))⟩

end Go.Proofs.Ytnpoofddnmodoaa
