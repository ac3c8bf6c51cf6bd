/- Ascending lists, and what noise makes of them. -/
import Derived.Test.YthfliohfkhnpiaaJi
namespace Go.Proofs.Ythfliohfkhnpiaa
set_option linter.unusedVariables false
set_option linter.unusedSimpArgs false
open Go.RowKit

theorem hasV_cons (v x : Int) (l : List Int) : hasV v (x :: l) = (decide (x = v) || hasV v l) := by
  obtain ⟨h1, _, _⟩ := ixOf_bd v l
  unfold hasV
  rw [ixOf]
  by_cases h : x = v
  · rw [if_pos h, decide_eq_true h]; rfl
  · rw [if_neg h, decide_eq_false h, Bool.false_or]
    split
    · rename_i e; rw [e]
    · rw [decide_eq_decide]; omega
theorem incr_pw : ∀ {l : List Int}, incr l = true → l.Pairwise (· < ·)
  | [], _ => .nil
  | [_], _ => by simp
  | a :: b :: l, h => by
    simp only [incr, Bool.and_eq_true, decide_eq_true_eq] at h
    have ih := incr_pw h.2
    refine List.pairwise_cons.2 ⟨fun y hy => ?_, ih⟩
    rcases List.mem_cons.1 hy with rfl | hy
    · exact h.1
    · have := (List.pairwise_cons.1 ih).1 y hy
      omega
theorem incr_lt {l : List Int} (h : incr l = true) {i j : Nat} (hij : i < j) (hj : j < l.length) : l.getD i 0 < l.getD j 0 := by
  have := List.pairwise_iff_getElem.1 (incr_pw h) i j (by omega) hj hij
  rw [List.getD_eq_getElem?_getD, List.getD_eq_getElem?_getD, List.getElem?_eq_getElem hj, List.getElem?_eq_getElem (show i < l.length by omega)]
  exact this
theorem ins_len (l : List Int) (x : Int) : (ins l x).length ≤ l.length + 1 := by
  induction l with
  | nil => simp [ins]
  | cons a l ih =>
    rw [ins]
    split
    · simp only [List.length_cons]; omega
    · split
      · simp
      · simp
theorem ap_two {l j d u : List Int} (w1 : vE l = true) (w2 : lngB j d u = false) (h : badN l j d = true ∨ (rawL l j d u).all isT = false) : apE l j d u = 2 := by
  unfold apE
  rw [if_pos w1, w2]
  rcases h with h | h
  · rw [h]; rfl
  · rw [h]; cases badN l j d <;> rfl
theorem ap_ok {l j d u : List Int} (w1 : vE l = true) (w2 : lngB j d u = false) (w3 : badN l j d = false) (h : (rawL l j d u).all isT = true) : apE l j d u = if 1000 < (nrm (rawL l j d u)).length then 5 else 0 := by
  unfold apE
  rw [if_pos w1, w2, w3, h]
  rfl
theorem incr_ins {o : List Int} (h : incr o = true) (x : Int) : incr (ins o x) = true := incr_of (ins_asc o x (incr_pw h))
theorem apL_len {l j d u : List Int} : (apL l j d u).length ≤ 1000 := by
  unfold apL
  split
  · rename_i h
    unfold apE at h
    split at h
    · split at h
      · omega
      · split at h
        · omega
        · split at h
          · split at h
            · omega
            · omega
          · omega
    · omega
  · simp
end Go.Proofs.Ythfliohfkhnpiaa

