/- Tolerated noise: where the moved edges lie. -/
import Derived.Test.YthfliohfkhnpiaaJk
import Derived.Test.YthfliohfkhnpiaaJm
namespace Go.Proofs.Ythfliohfkhnpiaa
set_option linter.unusedVariables false
set_option linter.unusedSimpArgs false
open Go.RowKit

theorem aab_le (x : Int) : -aab x ≤ x ∧ x ≤ aab x ∧ 0 ≤ aab x := by
  unfold aab
  split <;> omega
/-- The edge with a number, moved. -/
def mvT (l j : List Int) (n : Nat) : Int := l.getD n 0 + mvd j (n : Int)
def calmF (l k j : List Int) : Prop := ∀ n, n + 1 < l.length → 1 ≤ k.getD n 0 ∧ 64 * aab (mvd j (n : Int)) * k.getD n 0 ≤ l.getD (n + 1) 0 - l.getD n 0 ∧ 64 * aab (mvd j ((n + 1 : Nat) : Int)) * k.getD n 0 ≤ l.getD (n + 1) 0 - l.getD n 0
theorem mul_one_le {a k g : Int} (h0 : 0 ≤ a) (hk : 1 ≤ k) (h : 64 * a * k ≤ g) : 64 * a ≤ g := by
  have := Int.mul_le_mul_of_nonneg_left hk (show 0 ≤ 64 * a by omega)
  omega
theorem calm_jit {l k j : List Int} (c : calmF l k j) {n : Nat} (h : n + 1 < l.length) : 64 * aab (mvd j (n : Int)) ≤ l.getD (n + 1) 0 - l.getD n 0 ∧ 64 * aab (mvd j ((n + 1 : Nat) : Int)) ≤ l.getD (n + 1) 0 - l.getD n 0 := by
  obtain ⟨h1, h2, h3⟩ := c n h
  exact ⟨mul_one_le (aab_le _).2.2 h1 h2, mul_one_le (aab_le _).2.2 h1 h3⟩
theorem calm_gap {l k j : List Int} (c : calmF l k j) {n : Nat} (h : n + 1 < l.length) : 31 * (l.getD (n + 1) 0 - l.getD n 0) ≤ 32 * (mvT l j (n + 1) - mvT l j n) ∧ 32 * (mvT l j (n + 1) - mvT l j n) ≤ 33 * (l.getD (n + 1) 0 - l.getD n 0) := by
  obtain ⟨h1, h2⟩ := calm_jit c h
  have a1 := aab_le (mvd j (n : Int))
  have a2 := aab_le (mvd j ((n + 1 : Nat) : Int))
  unfold mvT
  omega
theorem kpt_len0 (j : List Int) : ∀ (l : List Int) (i : Int), (kpt j [] i l).length = l.length
  | [], _ => rfl
  | t :: l, i => by
    rw [kpt, if_neg (by simp [hasV, ixOf]), List.length_cons, kpt_len0 j l, List.length_cons]
theorem kpt_get (j : List Int) : ∀ (l : List Int) (i : Int) (n : Nat), n < l.length → (kpt j [] i l).getD n 0 = l.getD n 0 + mvd j (i + n)
  | [], _, _, h => by simp at h
  | t :: l, i, 0, _ => by
    rw [kpt, if_neg (by simp [hasV, ixOf]), List.getD_cons_zero, List.getD_cons_zero]
    congr 2
    omega
  | t :: l, i, n + 1, h => by
    rw [kpt, if_neg (by simp [hasV, ixOf]), List.getD_cons_succ, List.getD_cons_succ, kpt_get j l (i + 1) n (by simpa using h)]
    congr 2
    omega
theorem kpt_mv {j l : List Int} {n : Nat} (h : n < l.length) : (kpt j [] 0 l).getD n 0 = mvT l j n := by
  rw [kpt_get j l 0 n h, Int.zero_add]
  rfl
theorem incr_step : ∀ {l : List Int}, (∀ n, n + 1 < l.length → l.getD n 0 < l.getD (n + 1) 0) → incr l = true
  | [], _ => rfl
  | [_], _ => rfl
  | a :: b :: l, h => by
    have h0 := h 0 (by simp)
    have ih := incr_step (l := b :: l) (fun n hn => h (n + 1) (by simpa using hn))
    rw [incr, ih, Bool.and_true, decide_eq_true_eq]
    simpa using h0
/-- The moved edges are in their order. -/
theorem mv_incr {l k j : List Int} (v : incr l = true) (c : calmF l k j) : incr (kpt j [] 0 l) = true := by
  refine incr_step fun n hn => ?_
  rw [kpt_len0] at hn
  rw [kpt_mv (by omega), kpt_mv hn]
  have := calm_gap c hn
  have := incr_get v hn
  omega
theorem lidx_cut {p : Nat → Bool} {b : Nat} : ∀ n : Nat, b ≤ n → (∀ x, x < b → p x = true) → (∀ x, b ≤ x → x < n → p x = false) → lidx p n = (b : Int) - 1
  | 0, hb, _, _ => by
    have : b = 0 := by omega
    subst this
    rfl
  | n + 1, hb, h1, h2 => by
    rw [lidx]
    by_cases e : b = n + 1
    · rw [h1 n (by omega), if_pos rfl]
      omega
    · rw [h2 n (by omega) (by omega), if_neg (by decide)]
      exact lidx_cut n (by omega) h1 (fun x hx hn => h2 x hx (by omega))
/-- The true edge ahead of a spurious one. -/
theorem spar_bs {l j : List Int} (s : Int) (v : incr (kpt j [] 0 l) = true) : sparI l j s = (bsN (kpt j [] 0 l) s : Int) - 1 := by
  obtain ⟨h1, h2, h3⟩ := bsN_bd (kpt j [] 0 l) s
  have hlen := kpt_len0 j l 0
  unfold sparI
  refine lidx_cut _ (by omega) (fun x hx => ?_) (fun x hb hx => ?_)
  · have := h2 x hx
    rw [kpt_mv (by omega)] at this
    exact decide_eq_true this
  · refine decide_eq_false ?_
    have h4 := h3 (by omega)
    have h5 : (kpt j [] 0 l).getD (bsN (kpt j [] 0 l) s) 0 ≤ (kpt j [] 0 l).getD x 0 := by
      by_cases e : bsN (kpt j [] 0 l) s = x
      · rw [e]; exact Int.le_refl _
      · exact Int.le_of_lt (incr_lt v (by omega) (by omega))
    rw [kpt_mv hx] at h5
    change ¬ mvT l j x < s
    omega
theorem k_step {T M s b : Int} (hw : wValid T M = true) (hs : 0 ≤ s) {n : Nat} (hn : n + 1 < (eL T M s b).length) : (spsL T M (eL T M s b)).getD n 0 * spc T M = (eL T M s b).getD (n + 1) 0 - (eL T M s b).getD n 0 ∧ 1 ≤ (spsL T M (eL T M s b)).getD n 0 := by
  obtain ⟨e1, e2, e3⟩ := eL_spec (b := b) hw hs
  obtain ⟨b0, b1, b2, b3⟩ := spc_bd hw
  have x0 := isE_mod hw (e1 _ (memD (show n < (eL T M s b).length by omega))).2.2
  have x1 := isE_mod hw (e1 _ (memD hn)).2.2
  have hg := spsL_get (T := T) (M := M) (P := eL T M s b) (j := n) hn
  have hlt := List.pairwise_iff_getElem.1 e2 n (n + 1) (by omega) hn (by omega)
  have hlt2 : (eL T M s b).getD n 0 + 192 ≤ (eL T M s b).getD (n + 1) 0 := by
    rw [List.getD_eq_getElem?_getD, List.getD_eq_getElem?_getD, List.getElem?_eq_getElem hn, List.getElem?_eq_getElem (show n < (eL T M s b).length by omega)]
    exact hlt
  have hk : (spsL T M (eL T M s b)).getD n 0 * spc T M = (eL T M s b).getD (n + 1) 0 - (eL T M s b).getD n 0 := by
    rw [hg]
    exact Int.ediv_mul_cancel (Int.dvd_sub (Int.dvd_of_emod_eq_zero x1) (Int.dvd_of_emod_eq_zero x0))
  refine ⟨hk, ?_⟩
  rcases Int.lt_or_le ((spsL T M (eL T M s b)).getD n 0) 1 with h | h
  · have := Int.mul_le_mul_of_nonneg_right (show (spsL T M (eL T M s b)).getD n 0 ≤ 0 by omega) (show 0 ≤ spc T M by omega)
    omega
  · exact h
theorem calm_of {l k j : List Int} (h : calmB l k j = true) (hl : k.length = l.length - 1) (hk : ∀ n, n + 1 < l.length → 1 ≤ k.getD n 0) : calmF l k j := fun n hn => by
  have h2 := allB_iff.1 h n (by omega)
  unfold calmP at h2
  simp only [Bool.and_eq_true, decide_eq_true_eq] at h2
  refine ⟨hk n hn, h2.1, ?_⟩
  rw [show ((n + 1 : Nat) : Int) = (n : Int) + 1 by omega]
  exact h2.2
theorem out_far {l k j : List Int} (v : vE l = true) (c : calmF l k j) (hlen : 2 ≤ l.length) {n : Nat} (hn : n < l.length) (h : isT (mvT l j n) = false) : (0 < j.length ∧ l.getD 0 0 + j.getD 0 0 < 0) ∨ 549755813888 < l.getD (l.length - 1) 0 := by
  obtain ⟨v1, v2, v3⟩ := vE_iff.1 v
  have t0 := isT_iff.1 (all_get v2 hn)
  have t1 := isT_iff.1 (all_get v2 (j := 1) (by omega))
  have hT : ¬ (0 ≤ mvT l j n ∧ mvT l j n ≤ 1099511627776) := fun hh => by rw [isT_iff.2 hh] at h; cases h
  have hle : ∀ i, i < l.length → l.getD i 0 ≤ l.getD (l.length - 1) 0 := fun i hi => by
    by_cases e : i = l.length - 1
    · rw [e]; exact Int.le_refl _
    · exact Int.le_of_lt (incr_lt v3 (by omega) (by omega))
  have a := aab_le (mvd j (n : Int))
  unfold mvT at hT
  cases n with
  | zero =>
    obtain ⟨c1, c2⟩ := calm_jit c (n := 0) (by omega)
    have l1 := hle 1 (by omega)
    by_cases hneg : l.getD 0 0 + mvd j ((0 : Nat) : Int) < 0
    · left
      unfold mvd at hneg
      split at hneg
      · omega
      · refine ⟨by omega, ?_⟩
        rw [show ((0 : Nat) : Int) = 0 from rfl, Int.zero_emod] at hneg
        exact hneg
    · right
      rw [show 0 + 1 = 1 from rfl] at c1
      omega
  | succ n =>
    obtain ⟨c1, c2⟩ := calm_jit c (n := n) (by omega)
    have t2 := isT_iff.1 (all_get v2 (j := n) (by omega))
    have l1 := hle (n + 1) (by omega)
    right
    omega
theorem ap_is2 {l j d u : List Int} (h : apE l j d u = 2) (w1 : vE l = true) (w2 : lngB j d u = false) (w3 : badN l j d = false) : (rawL l j d u).all isT = false := by
  cases hh : (rawL l j d u).all isT with
  | false => rfl
  | true =>
    rw [ap_ok w1 w2 w3 hh] at h
    split at h <;> omega
end Go.Proofs.Ythfliohfkhnpiaa

