/- Tolerated noise and synchronization: the plain law. -/
import Derived.Test.YthfliohfkhnpiaaT6
import Derived.Test.YthfliohfkhnpiaaT7
namespace Go.Proofs.Ythfliohfkhnpiaa
set_option linter.unusedVariables false
set_option linter.unusedSimpArgs false
open Go.RowKit

/-- Locked, by the law, behind some edges. -/
def lkC (tau : Nat → Int) : Nat → Bool
  | 0 => false
  | k + 1 => lkC tau k || (decide (3 ≤ k) && decide (tau k = 0))
theorem lk_small {tau : Nat → Int} : lkC tau 0 = false ∧ lkC tau 1 = false ∧ lkC tau 2 = false ∧ lkC tau 3 = false := ⟨rfl, rfl, rfl, rfl⟩
theorem lk_big {tau : Nat → Int} : ∀ k : Nat, lkC tau k = true → 4 ≤ k
  | 0, h => by cases h
  | 1, h => by cases h
  | 2, h => by cases h
  | 3, h => by cases h
  | k + 4, _ => by omega
/-- The state behind an edge. -/
def stI (M : Int) (E : List Int) (tau : Nat → Int) (i : Nat) : List Int :=
  if lkC tau (i + 1) then [2, tau i, E.getD i 0, pr E i, if tau i = 0 then pr E i / (M + 1) else pr E i, 0]
  else [1, 0, E.getD i 0, pr E i, pr E i, if i = 0 then 0 else if i = 1 then 1 else if fitB (pr E i) (pr E (i - 1)) then 2 else 1]
theorem stI_no0 (M : Int) (E : List Int) (tau : Nat → Int) : stI M E tau 0 = [1, 0, E.getD 0 0, 0, 0, 0] := rfl
theorem stI_no1 (M : Int) (E : List Int) (tau : Nat → Int) : stI M E tau 1 = [1, 0, E.getD 1 0, pr E 1, pr E 1, 1] := rfl
theorem stI_no (M : Int) (E : List Int) {tau : Nat → Int} {n : Nat} (h : lkC tau (n + 3) = false) : stI M E tau (n + 2) = [1, 0, E.getD (n + 2) 0, pr E (n + 2), pr E (n + 2), if fitB (pr E (n + 2)) (pr E (n + 1)) then 2 else 1] := by
  unfold stI
  rw [show n + 2 + 1 = n + 3 from rfl, h, if_neg (by decide), if_neg (show ¬ n + 2 = 0 by omega), if_neg (show ¬ n + 2 = 1 by omega)]
  rfl
theorem stI_yes (M : Int) (E : List Int) {tau : Nat → Int} {i : Nat} (h : lkC tau (i + 1) = true) : stI M E tau i = [2, tau i, E.getD i 0, pr E i, if tau i = 0 then pr E i / (M + 1) else pr E i, 0] := by
  unfold stI
  rw [h, if_pos rfl]
theorem stp_seek {T M la pe no te t : Int} (h : ¬ (te = 2 ∧ gapB M no (t - la) = true)) : stp T M 1 0 la pe no te t = [1, 0, t, t - la, t - la, if te ≠ 0 ∧ fitB (t - la) no = true then 2 else 1] := by
  unfold stp
  rw [if_pos rfl, if_neg h]
theorem stp_lock {T M la pe no te t : Int} (h : te = 2 ∧ gapB M no (t - la) = true) : stp T M 1 0 la pe no te t = [2, 0, t, t - la, (t - la) / (M + 1), 0] := by
  unfold stp
  rw [if_pos rfl, if_pos h]
theorem stp_last {T M la pe no te t : Int} (h : fitB (t - la) ((M + 1) * no) = true) : stp T M 2 (T - M - 1) la pe no te t = [2, 0, t, t - la, (t - la) / (M + 1), 0] := by
  unfold stp expc
  rw [if_neg (by decide), if_pos rfl, if_pos rfl, h, if_neg (by decide), if_pos rfl]
theorem stp_next {T M th la pe no te t : Int} (hl : ¬ th = T - M - 1) (h : fitB (t - la) no = true) : stp T M 2 th la pe no te t = [2, th + 1, t, t - la, t - la, 0] := by
  unfold stp expc
  rw [if_neg (by decide), if_pos rfl, if_neg hl, h, if_neg (by decide), if_neg hl]
section
variable {T M : Int} {l j : List Int} {k tau : Nat → Int}
/-- Two neighboring spaces, moved. -/
theorem Tol.two (h : Tol T M l j k tau) {n : Nat} (hn : n + 2 < l.length) :
    ∃ a b : Int, 24 ≤ a ∧ 24 ≤ b ∧ (31 * a ≤ 32 * pr (kpt j [] 0 l) (n + 1) ∧ 32 * pr (kpt j [] 0 l) (n + 1) ≤ 33 * a) ∧ (31 * b ≤ 32 * pr (kpt j [] 0 l) (n + 2) ∧ 32 * pr (kpt j [] 0 l) (n + 2) ≤ 33 * b) ∧
      16 * k (n + 1) * (a - 1) ≤ 17 * k n * (b + 1) ∧ 16 * k n * (b - 1) ≤ 17 * k (n + 1) * (a + 1) := by
  refine ⟨dN l n, dN l (n + 1), h.far n (by omega), h.far (n + 1) (by omega), ?_, ?_, h.std n hn⟩
  · rw [pr_succ, kpt_mv (by omega), kpt_mv (by omega)]
    exact h.gap (by omega)
  · rw [show n + 2 = (n + 1) + 1 from rfl, pr_succ, kpt_mv (by omega), kpt_mv (by omega)]
    exact h.gap (n := n + 1) (by omega)
theorem fitB_iff {p q : Int} : fitB p q = true ↔ 4 * (p - q) ≤ q ∧ 4 * (q - p) ≤ q := by
  unfold fitB
  rw [decide_eq_true_eq]
  omega
/-- One space behind one space. -/
theorem Tol.oneOne (h : Tol T M l j k tau) {n : Nat} (hn : n + 2 < l.length) (k0 : k n = 1) (k1 : k (n + 1) = 1) :
    fitB (pr (kpt j [] 0 l) (n + 2)) (pr (kpt j [] 0 l) (n + 1)) = true ∧ gapB M (pr (kpt j [] 0 l) (n + 1)) (pr (kpt j [] 0 l) (n + 2)) = false := by
  obtain ⟨a, b, h1, h2, h3, h4, h5, h6⟩ := h.two hn
  rw [k0, k1] at h5 h6
  rw [fitB_iff]
  generalize pr (kpt j [] 0 l) (n + 1) = p at *
  generalize pr (kpt j [] 0 l) (n + 2) = q at *
  refine ⟨by omega, ?_⟩
  unfold gapB
  split
  · exact decide_eq_false (by omega)
  · exact decide_eq_false (by omega)
/-- The gap behind one space. -/
theorem Tol.oneGap (h : Tol T M l j k tau) {n : Nat} (hn : n + 2 < l.length) (k0 : k n = 1) (k1 : k (n + 1) = M + 1) :
    fitB (pr (kpt j [] 0 l) (n + 2)) ((M + 1) * pr (kpt j [] 0 l) (n + 1)) = true ∧ gapB M (pr (kpt j [] 0 l) (n + 1)) (pr (kpt j [] 0 l) (n + 2)) = true := by
  obtain ⟨a, b, h1, h2, h3, h4, h5, h6⟩ := h.two hn
  rw [k0, k1] at h5 h6
  rw [fitB_iff]
  generalize pr (kpt j [] 0 l) (n + 1) = p at *
  generalize pr (kpt j [] 0 l) (n + 2) = q at *
  unfold gapB
  rcases (wValid_iff.1 h.val).1 with hM | hM
  · subst hM
    exact ⟨by omega, by rw [if_pos rfl]; exact decide_eq_true (by omega)⟩
  · subst hM
    exact ⟨by omega, by rw [if_neg (by decide)]; exact decide_eq_true (by omega)⟩
/-- One space behind the gap. -/
theorem Tol.gapOne (h : Tol T M l j k tau) {n : Nat} (hn : n + 2 < l.length) (k0 : k n = M + 1) (k1 : k (n + 1) = 1) :
    fitB (pr (kpt j [] 0 l) (n + 2)) (pr (kpt j [] 0 l) (n + 1) / (M + 1)) = true ∧ gapB M (pr (kpt j [] 0 l) (n + 1)) (pr (kpt j [] 0 l) (n + 2)) = false := by
  obtain ⟨a, b, h1, h2, h3, h4, h5, h6⟩ := h.two hn
  rw [k0, k1] at h5 h6
  rw [fitB_iff]
  generalize pr (kpt j [] 0 l) (n + 1) = p at *
  generalize pr (kpt j [] 0 l) (n + 2) = q at *
  unfold gapB
  rcases (wValid_iff.1 h.val).1 with hM | hM
  · subst hM
    exact ⟨by omega, by rw [if_pos rfl]; exact decide_eq_false (by omega)⟩
  · subst hM
    exact ⟨by omega, by rw [if_neg (by decide)]; exact decide_eq_false (by omega)⟩
def stq (T M : Int) (st : List Int) (t : Int) : List Int := stp T M (q st 0) (q st 1) (q st 2) (q st 3) (q st 4) (q st 5) t
theorem Tol.first (h : Tol T M l j k tau) : stq T M s0 ((kpt j [] 0 l).getD 0 0) = stI M (kpt j [] 0 l) tau 0 := by
  unfold stI
  rw [lk_small.2.1, if_neg (by decide), if_pos rfl, pr_zero]
  rfl
theorem Tol.step (h : Tol T M l j k tau) {i : Nat} (hi : i + 1 < l.length) : stq T M (stI M (kpt j [] 0 l) tau i) ((kpt j [] 0 l).getD (i + 1) 0) = stI M (kpt j [] 0 l) tau (i + 1) := by
  have hw := wValid_iff.1 h.val
  have hp := (pr_succ (kpt j [] 0 l) i).symm
  have hn := h.next i hi
  have hkn := h.knd i hi
  have hb := h.bd i (by omega)
  have hb1 := h.bd (i + 1) hi
  cases hL : lkC tau (i + 1) with
  | true =>
    have hi3 := lk_big (i + 1) hL
    obtain ⟨n, rfl⟩ : ∃ n, i = n + 1 := ⟨i - 1, by omega⟩
    have hkp := h.knd n (by omega)
    have hL2 : lkC tau (n + 1 + 1 + 1) = true := by rw [lkC, hL, Bool.true_or]
    rw [stI_yes M _ hL, stI_yes M _ hL2]
    show stp T M 2 (tau (n + 1)) ((kpt j [] 0 l).getD (n + 1) 0) (pr (kpt j [] 0 l) (n + 1)) (if tau (n + 1) = 0 then pr (kpt j [] 0 l) (n + 1) / (M + 1) else pr (kpt j [] 0 l) (n + 1)) 0 ((kpt j [] 0 l).getD (n + 1 + 1) 0) = _
    by_cases hl : tau (n + 1) = T - M - 1
    · have h0 : ¬ tau (n + 1) = 0 := by omega
      rw [if_pos hl] at hn
      rw [if_pos hn] at hkn
      rw [if_neg h0] at hkp
      have hf := (h.oneGap (n := n) (by omega) hkp hkn).1
      rw [if_neg h0, hl, stp_last (by rw [hp]; exact hf), hp, hn, if_pos rfl]
    · rw [if_neg hl] at hn
      have h1 : ¬ tau (n + 1 + 1) = 0 := by omega
      rw [if_neg h1] at hkn
      have hf : fitB (pr (kpt j [] 0 l) (n + 2)) (if tau (n + 1) = 0 then pr (kpt j [] 0 l) (n + 1) / (M + 1) else pr (kpt j [] 0 l) (n + 1)) = true := by
        by_cases h0 : tau (n + 1) = 0
        · rw [if_pos h0] at hkp ⊢
          exact (h.gapOne (n := n) (by omega) hkp hkn).1
        · rw [if_neg h0] at hkp ⊢
          exact (h.oneOne (n := n) (by omega) hkp hkn).1
      rw [stp_next hl (by rw [hp]; exact hf), hp, if_neg h1, hn]
  | false =>
    match i, hi, hp, hn, hkn, hb, hb1, hL with
    | 0, hi, hp, hn, hkn, hb, hb1, hL =>
      rw [stI_no0, show 0 + 1 = 1 from rfl, stI_no1]
      show stp T M 1 0 ((kpt j [] 0 l).getD 0 0) 0 0 0 ((kpt j [] 0 l).getD 1 0) = _
      rw [stp_seek (by simp), show (kpt j [] 0 l).getD 1 0 - (kpt j [] 0 l).getD 0 0 = pr (kpt j [] 0 l) 1 from hp]
      simp
    | 1, hi, hp, hn, hkn, hb, hb1, hL =>
      rw [stI_no1, show 1 + 1 = 0 + 2 from rfl, stI_no M _ lk_small.2.2.2]
      show stp T M 1 0 ((kpt j [] 0 l).getD 1 0) (pr (kpt j [] 0 l) 1) (pr (kpt j [] 0 l) 1) 1 ((kpt j [] 0 l).getD (0 + 2) 0) = _
      rw [stp_seek (by simp), show (kpt j [] 0 l).getD (0 + 2) 0 - (kpt j [] 0 l).getD 1 0 = pr (kpt j [] 0 l) (0 + 2) from hp]
      simp
    | n + 2, hi, hp, hn, hkn, hb, hb1, hL =>
      have hkp := h.knd (n + 1) (by omega)
      have hL2 : lkC tau (n + 2 + 1 + 1) = decide (tau (n + 3) = 0) := by
        rw [lkC, hL, Bool.false_or, decide_eq_true (show 3 ≤ n + 2 + 1 by omega), Bool.true_and]
      have hst := stI_no M (kpt j [] 0 l) (n := n) hL
      rw [hst]
      show stp T M 1 0 ((kpt j [] 0 l).getD (n + 2) 0) (pr (kpt j [] 0 l) (n + 2)) (pr (kpt j [] 0 l) (n + 2)) (if fitB (pr (kpt j [] 0 l) (n + 2)) (pr (kpt j [] 0 l) (n + 1)) then 2 else 1) ((kpt j [] 0 l).getD (n + 2 + 1) 0) = _
      by_cases h0 : tau (n + 3) = 0
      · rw [if_pos h0] at hkn
        have hl : tau (n + 2) = T - M - 1 := by
          split at hn
          · assumption
          · have : tau (n + 2 + 1) = tau (n + 3) := rfl
            omega
        have hn1 := h.next (n + 1) (by omega)
        have hb2 := h.bd (n + 1) (by omega)
        have hn2 : ¬ tau (n + 1 + 1) = 0 := by
          have : tau (n + 1 + 1) = tau (n + 2) := rfl
          omega
        rw [if_neg hn2] at hkp
        have hn3 : ¬ tau (n + 1) = 0 := by
          have e : tau (n + 1 + 1) = tau (n + 2) := rfl
          split at hn1 <;> omega
        have hkq := h.knd n (by omega)
        rw [if_neg hn3] at hkq
        have hf := (h.oneOne (n := n) (by omega) hkq hkp).1
        have hg := (h.oneGap (n := n + 1) (by omega) hkp hkn).2
        rw [hf, if_pos rfl, stp_lock ⟨rfl, by rw [hp]; exact hg⟩, hp, stI_yes M _ (by rw [hL2]; exact decide_eq_true h0), if_pos (show tau (n + 2 + 1) = 0 from h0), show tau (n + 2 + 1) = 0 from h0]
      · rw [if_neg h0] at hkn
        have hg : gapB M (pr (kpt j [] 0 l) (n + 2)) (pr (kpt j [] 0 l) (n + 2 + 1)) = false := by
          by_cases h2 : tau (n + 1 + 1) = 0
          · rw [if_pos h2] at hkp
            exact (h.gapOne (n := n + 1) (by omega) hkp hkn).2
          · rw [if_neg h2] at hkp
            exact (h.oneOne (n := n + 1) (by omega) hkp hkn).2
        rw [stp_seek (by rw [hp, hg]; simp), hp, show n + 2 + 1 = (n + 1) + 2 from rfl, stI_no M _ (n := n + 1) (by rw [show n + 1 + 3 = n + 2 + 1 + 1 from rfl, hL2]; exact decide_eq_false h0)]
        have hte : (if fitB (pr (kpt j [] 0 l) (n + 2)) (pr (kpt j [] 0 l) (n + 1)) = true then (2 : Int) else 1) ≠ 0 := by split <;> omega
        simp only [hte, ne_eq, not_false_eq_true, true_and]
theorem runS_all (h : Tol T M l j k tau) : ∀ (n i : Nat) (st : List Int), i + n = l.length → stq T M st ((kpt j [] 0 l).getD i 0) = stI M (kpt j [] 0 l) tau i → ∀ x, x < n → (runS T M st ((kpt j [] 0 l).drop i)).getD x [] = stI M (kpt j [] 0 l) tau (i + x)
  | 0, _, _, _, _, x, hx => by omega
  | n + 1, i, st, hi, hs, x, hx => by
    rw [drop_consN (by rw [kpt_len0]; omega), runS]
    cases x with
    | zero => exact hs
    | succ x =>
      rw [List.getD_cons_succ]
      by_cases hn : i + 1 < l.length
      · have := runS_all h n (i + 1) _ (by omega) (by rw [← h.step hn, ← hs]) x (by omega)
        rw [show i + (x + 1) = i + 1 + x by omega]
        exact this
      · omega
/-- The states of a tolerated signal. -/
theorem Tol.states (h : Tol T M l j k tau) {i : Nat} (hi : i < l.length) : (runS T M s0 (kpt j [] 0 l)).getD i [] = stI M (kpt j [] 0 l) tau i := by
  have := runS_all h l.length 0 s0 (by omega) h.first i hi
  rw [Nat.zero_add] at this
  exact this
end
end Go.Proofs.Ythfliohfkhnpiaa

