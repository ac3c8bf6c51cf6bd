/- The first element of a list that a test takes. No program in sight. -/
import Derived.Test.YthfliohfkhnpiaaEd
namespace Go.Proofs.Ythfliohfkhnpiaa
open Go.RowKit

def fb {α : Type} (p : α → Bool) : List α → Int
  | [] => -1
  | x :: l => if p x = true then 0 else (if fb p l = -1 then -1 else fb p l + 1)
theorem fb_cons {α : Type} (p : α → Bool) (x : α) (l : List α) : fb p (x :: l) = if p x = true then 0 else (if fb p l = -1 then -1 else fb p l + 1) := by rw [fb]
theorem fb_bd {α : Type} (p : α → Bool) : ∀ l : List α, -1 ≤ fb p l ∧ fb p l < l.length ∧ (fb p l = -1 ↔ l.any p = false)
  | [] => by simp [fb]
  | x :: l => by
    obtain ⟨h1, h2, h3⟩ := fb_bd p l
    rw [fb_cons]
    cases hx : p x with
    | true => simp [hx]
    | false =>
      simp only [List.length_cons, List.any_cons, hx, Bool.false_or, Bool.false_eq_true, if_false]
      rw [← h3]
      by_cases h : fb p l = -1
      · rw [if_pos h]; simp [h]; omega
      · rw [if_neg h]; simp [h]; omega
theorem drop_consG {α : Type} {d : α} {l : List α} {i : Int} (h0 : 0 ≤ i) (h1 : i < l.length) : l.drop i.toNat = l.getD i.toNat d :: l.drop (i.toNat + 1) := by
  have h : i.toNat < l.length := by omega
  rw [List.drop_eq_getElem_cons h, List.getD_eq_getElem?_getD, List.getElem?_eq_getElem h]
  rfl
end Go.Proofs.Ythfliohfkhnpiaa
