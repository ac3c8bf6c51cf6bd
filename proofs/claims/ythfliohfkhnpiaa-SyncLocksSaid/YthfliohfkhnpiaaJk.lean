/- What noise makes of lists: plain facts. -/
import Derived.Test.YthfliohfkhnpiaaJn
import Derived.Test.YthfliohfkhnpiaaJm
namespace Go.Proofs.Ythfliohfkhnpiaa
set_option linter.unusedVariables false
set_option linter.unusedSimpArgs false
open Go.RowKit

/-- The number of elements ahead of a time. -/
def bsN : List Int → Int → Nat
  | [], _ => 0
  | y :: l, x => if y < x then bsN l x + 1 else 0
theorem bsN_bd : ∀ (l : List Int) (x : Int), bsN l x ≤ l.length ∧ (∀ j, j < bsN l x → l.getD j 0 < x) ∧ (bsN l x < l.length → x ≤ l.getD (bsN l x) 0)
  | [], x => by simp [bsN]
  | y :: l, x => by
    obtain ⟨h1, h2, h3⟩ := bsN_bd l x
    rw [bsN]
    by_cases h : y < x
    · rw [if_pos h]
      refine ⟨by simp; omega, fun j hj => ?_, fun hl => ?_⟩
      · cases j with
        | zero => simpa using h
        | succ j => rw [List.getD_cons_succ]; exact h2 j (by omega)
      · rw [List.getD_cons_succ]; exact h3 (by simpa using hl)
    · rw [if_neg h]
      refine ⟨by omega, fun j hj => by omega, fun _ => ?_⟩
      rw [List.getD_cons_zero]; omega
theorem bsN_is {l : List Int} {x : Int} {a : Nat} (h0 : a ≤ l.length) (h1 : ∀ j, j < a → l.getD j 0 < x) (h2 : a < l.length → x ≤ l.getD a 0) : a = bsN l x := by
  obtain ⟨g1, g2, g3⟩ := bsN_bd l x
  rcases Nat.lt_trichotomy a (bsN l x) with h | h | h
  · have := g2 a h; have := h2 (by omega); omega
  · exact h
  · have := h1 _ h; have := g3 (by omega); omega
def bsF (l : List Int) (x : Int) : Bool := decide (bsN l x < l.length) && decide (l.getD (bsN l x) 0 = x)
theorem hasV_iff {v : Int} : ∀ {l : List Int}, hasV v l = true ↔ v ∈ l
  | [] => by simp [hasV, ixOf]
  | x :: l => by
    rw [hasV_cons, Bool.or_eq_true, hasV_iff (l := l), List.mem_cons, decide_eq_true_eq]
    constructor
    · rintro (h | h)
      · exact .inl h.symm
      · exact .inr h
    · rintro (h | h)
      · exact .inl h.symm
      · exact .inr h
theorem kpt_mem {j d : List Int} : ∀ (l : List Int) (i x : Int), x ∈ kpt j d i l ↔ ∃ n : Nat, n < l.length ∧ hasV (i + n) d = false ∧ x = l.getD n 0 + mvd j (i + n)
  | [], i, x => by simp [kpt]
  | t :: l, i, x => by
    have ih := kpt_mem (j := j) (d := d) l (i + 1) x
    have hz : i + ((0 : Nat) : Int) = i := by omega
    have hs : ∀ n : Nat, i + ((n + 1 : Nat) : Int) = i + 1 + n := fun n => by omega
    have hsucc : (∃ n : Nat, n < l.length ∧ hasV (i + 1 + n) d = false ∧ x = l.getD n 0 + mvd j (i + 1 + n)) → ∃ n : Nat, n < (t :: l).length ∧ hasV (i + n) d = false ∧ x = (t :: l).getD n 0 + mvd j (i + n) := by
      rintro ⟨n, h1, h2, h3⟩
      exact ⟨n + 1, by simp; omega, by rw [hs]; exact h2, by rw [hs, List.getD_cons_succ]; exact h3⟩
    have hback : ∀ n : Nat, n + 1 < (t :: l).length → hasV (i + ((n + 1 : Nat) : Int)) d = false → x = (t :: l).getD (n + 1) 0 + mvd j (i + ((n + 1 : Nat) : Int)) → ∃ n : Nat, n < l.length ∧ hasV (i + 1 + n) d = false ∧ x = l.getD n 0 + mvd j (i + 1 + n) := by
      intro n h1 h2 h3
      rw [hs] at h2 h3
      rw [List.getD_cons_succ] at h3
      exact ⟨n, by simpa using h1, h2, h3⟩
    rw [kpt]
    cases hv : hasV i d with
    | true =>
      rw [if_pos rfl, ih]
      constructor
      · exact hsucc
      · rintro ⟨n, h1, h2, h3⟩
        cases n with
        | zero => rw [hz, hv] at h2; cases h2
        | succ n => exact hback n h1 h2 h3
    | false =>
      rw [if_neg (by decide), List.mem_cons, ih]
      constructor
      · rintro (h | h)
        · exact ⟨0, by simp, by rw [hz]; exact hv, by rw [hz]; simpa using h⟩
        · exact hsucc h
      · rintro ⟨n, h1, h2, h3⟩
        cases n with
        | zero => rw [hz] at h3; exact .inl (by simpa using h3)
        | succ n => exact .inr (hback n h1 h2 h3)
theorem ap_zero {l j d u : List Int} (h : apE l j d u = 0) : vE l = true ∧ lngB j d u = false ∧ badN l j d = false ∧ (rawL l j d u).all isT = true ∧ apL l j d u = nrm (rawL l j d u) ∧ (nrm (rawL l j d u)).length ≤ 1000 := by
  have hL : apL l j d u = nrm (rawL l j d u) := by unfold apL; rw [if_pos h]
  unfold apE at h
  cases w1 : vE l with
  | false => rw [w1] at h; simp at h
  | true =>
    rw [w1, if_pos rfl] at h
    cases w2 : lngB j d u with
    | true => rw [w2] at h; simp at h
    | false =>
      rw [w2] at h
      cases w3 : badN l j d with
      | true => rw [w3] at h; simp at h
      | false =>
        rw [w3] at h
        cases w4 : (rawL l j d u).all isT with
        | false => rw [w4] at h; simp at h
        | true =>
          rw [w4] at h
          simp only [Bool.false_eq_true, if_false, if_true] at h
          refine ⟨rfl, rfl, rfl, rfl, hL, ?_⟩
          split at h
          · omega
          · omega
theorem apE_or {l j d u : List Int} (h : vE l = true) : apE l j d u = 0 ∨ apE l j d u = 2 ∨ apE l j d u = 5 := by
  unfold apE
  rw [if_pos h]
  split
  · simp
  · split
    · simp
    · split
      · split <;> simp
      · simp
theorem apL_mem {l j d u : List Int} (h : apE l j d u = 0) (x : Int) : x ∈ apL l j d u ↔ (∃ n : Nat, n < l.length ∧ hasV (n : Int) d = false ∧ x = l.getD n 0 + mvd j (n : Int)) ∨ x ∈ u := by
  obtain ⟨_, _, _, _, h5, _⟩ := ap_zero h
  rw [h5, nrm_mem]
  unfold rawL
  rw [List.mem_append, kpt_mem]
  simp only [Int.zero_add]
theorem apL_vE {l j d u : List Int} (h : apE l j d u = 0) : vE (apL l j d u) = true := by
  obtain ⟨_, _, _, h4, h5, h6⟩ := ap_zero h
  rw [h5]
  refine vE_iff.2 ⟨by omega, ?_, incr_of (nrm_asc _)⟩
  rw [List.all_eq_true] at h4 ⊢
  exact fun x hx => h4 x ((nrm_mem _ x).1 hx)
theorem foldl_ins_len : ∀ (l o : List Int), (l.foldl ins o).length ≤ o.length + l.length
  | [], o => by simp
  | x :: l, o => by
    have h1 := foldl_ins_len l (ins o x)
    have h2 := ins_len o x
    rw [List.foldl_cons, List.length_cons]
    omega
theorem nrm_len (l : List Int) : (nrm l).length ≤ l.length := by
  have := foldl_ins_len l []
  unfold nrm
  simpa using this
theorem nrm_self {l : List Int} (h : incr l = true) : nrm l = l := asc_ext (nrm_asc l) (incr_pw h) (nrm_mem l)
theorem mvd_nil (i : Int) : mvd [] i = 0 := rfl
theorem kpt_nil : ∀ (l : List Int) (i : Int), kpt [] [] i l = l
  | [], i => rfl
  | t :: l, i => by
    rw [kpt, if_neg (by simp [hasV, ixOf]), kpt_nil l, mvd_nil, Int.add_zero]
theorem getD_ofmem {l : List Int} {x : Int} (h : x ∈ l) : ∃ n, n < l.length ∧ l.getD n 0 = x := by
  obtain ⟨n, hn, e⟩ := List.mem_iff_getElem.1 h
  exact ⟨n, hn, by rw [List.getD_eq_getElem?_getD, List.getElem?_eq_getElem hn]; exact e⟩
theorem memD {l : List Int} {n : Nat} (h : n < l.length) : l.getD n 0 ∈ l := by
  rw [List.getD_eq_getElem?_getD, List.getElem?_eq_getElem h]
  exact List.getElem_mem h
/-- In an ascending list an element's number is the number of those ahead of it. -/
theorem bsN_at {l : List Int} (h : incr l = true) {n : Nat} (hn : n < l.length) : bsN l (l.getD n 0) = n :=
  (bsN_is (a := n) (by omega) (fun j hj => incr_lt h hj hn) (fun _ => Int.le_refl _)).symm
theorem bsF_at {l : List Int} (h : incr l = true) {n : Nat} (hn : n < l.length) : bsF l (l.getD n 0) = true := by
  unfold bsF
  rw [bsN_at h hn, decide_eq_true hn, decide_eq_true rfl]
  rfl
end Go.Proofs.Ythfliohfkhnpiaa

