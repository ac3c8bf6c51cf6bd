/- Tolerated noise and the tooth filter: the plain law. -/
import Derived.Test.YthfliohfkhnpiaaT2
import Derived.Test.YthfliohfkhnpiaaT3
namespace Go.Proofs.Ythfliohfkhnpiaa
set_option linter.unusedVariables false
set_option linter.unusedSimpArgs false
open Go.RowKit

/-- The period ahead of an edge. -/
def pr (E : List Int) (i : Nat) : Int := if i = 0 then 0 else E.getD i 0 - E.getD (i - 1) 0
theorem drop_consN {E : List Int} {i : Nat} (h : i < E.length) : E.drop i = E.getD i 0 :: E.drop (i + 1) := by
  rw [List.drop_eq_getElem_cons h, List.getD_eq_getElem?_getD, List.getElem?_eq_getElem h]
  rfl
theorem tf_go {E N : List Int} (hE : incr E = true) (H1 : ∀ i x, i < E.length → E.getD i 0 < x → x ∈ N → (i + 1 < E.length → x < E.getD (i + 1) 0) → x - E.getD i 0 < blk (pr E i)) (H2 : ∀ i, i + 1 < E.length → blk (pr E i) ≤ E.getD (i + 1) 0 - E.getD i 0) :
    ∀ (l : List Int) (i : Nat), i < E.length → (∀ x ∈ l, x ∈ N ∧ E.getD i 0 < x) → l.Pairwise (· < ·) → (∀ k, i < k → k < E.length → E.getD k 0 ∈ l) → tfR true (E.getD i 0) (pr E i) l = E.drop (i + 1)
  | [], i, hi, _, _, hin => by
    rw [tfR]
    by_cases hn : i + 1 < E.length
    · have := hin (i + 1) (by omega) hn
      simp at this
    · rw [List.drop_eq_nil_of_le (by omega)]
  | x :: r, i, hi, hx, hp, hin => by
    obtain ⟨hp1, hp2⟩ := List.pairwise_cons.1 hp
    obtain ⟨x1, x2⟩ := hx x (by simp)
    have hr : ∀ y ∈ r, y ∈ N ∧ E.getD i 0 < y := fun y hy => hx y (by simp [hy])
    rw [tfR, Bool.true_and]
    by_cases hn : i + 1 < E.length
    · by_cases e : x = E.getD (i + 1) 0
      · have h2 := H2 i hn
        rw [decide_eq_false (show ¬ x - E.getD i 0 < blk (pr E i) by omega), if_neg (by decide), if_pos rfl]
        have hpr : x - E.getD i 0 = pr E (i + 1) := by unfold pr; rw [if_neg (by omega), e]; rfl
        rw [hpr, drop_consN hn, e]
        congr 1
        refine tf_go hE H1 H2 r (i + 1) hn (fun y hy => ⟨(hr y hy).1, by rw [← e]; exact hp1 y hy⟩) hp2 (fun k hk hkl => ?_)
        rcases List.mem_cons.1 (hin k (by omega) hkl) with h | h
        · have := incr_lt hE (i := i + 1) (j := k) hk hkl
          omega
        · exact h
      · have hm : E.getD (i + 1) 0 ∈ r := by
          rcases List.mem_cons.1 (hin (i + 1) (by omega) hn) with h | h
          · exact absurd h.symm e
          · exact h
        have hlt := hp1 _ hm
        have h1 := H1 i x hi x2 x1 (fun _ => hlt)
        rw [decide_eq_true h1, if_pos rfl]
        refine tf_go hE H1 H2 r i hi hr hp2 (fun k hk hkl => ?_)
        rcases List.mem_cons.1 (hin k hk hkl) with h | h
        · have h9 : E.getD (i + 1) 0 ≤ E.getD k 0 := by
            by_cases e2 : i + 1 = k
            · rw [e2]; exact Int.le_refl _
            · exact Int.le_of_lt (incr_lt hE (by omega) hkl)
          omega
        · exact h
    · have h1 := H1 i x hi x2 x1 (fun h => absurd h hn)
      rw [decide_eq_true h1, if_pos rfl]
      exact tf_go hE H1 H2 r i hi hr hp2 (fun k hk hkl => by omega)
/-- Exactly the true edges are accepted. -/
theorem tf_all {E N : List Int} (hE : incr E = true) (hN : incr N = true) (sub : ∀ x ∈ E, x ∈ N) (h0 : ∀ x ∈ N, 0 < E.length ∧ E.getD 0 0 ≤ x) (H1 : ∀ i x, i < E.length → E.getD i 0 < x → x ∈ N → (i + 1 < E.length → x < E.getD (i + 1) 0) → x - E.getD i 0 < blk (pr E i)) (H2 : ∀ i, i + 1 < E.length → blk (pr E i) ≤ E.getD (i + 1) 0 - E.getD i 0) : tfR false 0 0 N = E := by
  cases N with
  | nil =>
    cases E with
    | nil => rfl
    | cons a E => have := sub a (by simp); simp at this
  | cons x r =>
    have hp := incr_pw hN
    obtain ⟨hp1, hp2⟩ := List.pairwise_cons.1 hp
    obtain ⟨g1, g2⟩ := h0 x (by simp)
    have hx : x = E.getD 0 0 := by
      rcases List.mem_cons.1 (sub _ (memD g1)) with h | h
      · exact h.symm
      · have := hp1 _ h; omega
    rw [tfR, Bool.false_and, if_neg (by decide), if_neg (by decide)]
    have hgo := tf_go (N := x :: r) hE H1 H2 r 0 g1 (fun y hy => ⟨by simp [hy], by rw [← hx]; exact hp1 y hy⟩) hp2 (fun k hk hkl => by
      rcases List.mem_cons.1 (sub _ (memD hkl)) with h | h
      · have := incr_lt hE hk hkl; omega
      · exact h)
    rw [← hx] at hgo
    have hpr : pr E 0 = 0 := rfl
    rw [hpr] at hgo
    rw [hgo, hx]
    exact (drop_consN g1).symm
/-- The tooth at an edge. -/
def tthAt (T M p : Int) : Int := p % 23040 / spc T M
theorem nx_tooth {T M p : Int} (hw : wValid T M = true) (hp : 0 ≤ p) : tthAt T M (nxA T M p) = nxT T M p ∧ 0 ≤ nxT T M p ∧ nxT T M p < T - M := by
  obtain ⟨b0, b1, b2, b3⟩ := spc_bd hw
  obtain ⟨n1, n2, n3, n4, n5, n6⟩ := nx_bd hw hp
  have hm : tth T M = T - M := by unfold tth; rw [if_pos hw]
  have hh := wValid_iff.1 hw
  rw [hm] at n6
  refine ⟨?_, n5, n6⟩
  unfold tthAt nxA nxT
  rw [hm]
  by_cases hc : T - M ≤ p % 23040 / spc T M + 1
  · rw [if_pos hc, if_pos hc, show (p - p % 23040 + 23040) % 23040 = 0 by omega, Int.zero_ediv]
  · rw [if_neg hc, if_neg hc]
    have hq := quo_pos (x := p % 23040) (y := spc T M) (by omega) (by omega)
    obtain ⟨q, hqq⟩ : ∃ q, q = p % 23040 / spc T M + 1 := ⟨_, rfl⟩
    rw [← hqq] at hc ⊢
    have hq0 : 0 ≤ q := by omega
    clear hqq hq
    have c1 : q * spc T M ≤ (T - 1) * spc T M := Int.mul_le_mul_of_nonneg_right (by omega) (by omega)
    have c2 : (T - 1) * spc T M = T * spc T M - spc T M := by rw [Int.sub_mul, Int.one_mul]
    have c3 : T * spc T M = 23040 := by rw [Int.mul_comm]; exact b2
    have c4 : 0 ≤ q * spc T M := Int.mul_nonneg (by omega) (by omega)
    rw [show (p - p % 23040 + q * spc T M) % 23040 = q * spc T M by omega, Int.mul_ediv_cancel _ (by omega)]
theorem nx_step {T M p : Int} (hw : wValid T M = true) (hp : isE T M p) (ht : tthAt T M p < T - M) : nxA T M p - p = (if nxT T M p = 0 then M + 1 else 1) * spc T M ∧ nxT T M p = (if tthAt T M p = T - M - 1 then 0 else tthAt T M p + 1) ∧ 0 ≤ tthAt T M p := by
  obtain ⟨b0, b1, b2, b3⟩ := spc_bd hw
  have hm : tth T M = T - M := by unfold tth; rw [if_pos hw]
  have hh := wValid_iff.1 hw
  have e := Int.emod_add_mul_ediv (p % 23040) (spc T M)
  rw [hp.2, Int.zero_add] at e
  have hq := quo_pos (x := p % 23040) (y := spc T M) (by omega) (by omega)
  unfold tthAt at ht ⊢
  unfold nxA nxT
  rw [hm]
  generalize p % 23040 / spc T M = q at *
  by_cases hc : T - M ≤ q + 1
  · have hq2 : q = T - M - 1 := by omega
    rw [if_pos hc, if_pos hc, if_pos rfl, if_pos hq2]
    refine ⟨?_, rfl, hq.1⟩
    have c3 : spc T M * q = spc T M * T - spc T M * M - spc T M := by rw [hq2, Int.mul_sub, Int.mul_sub, Int.mul_one]
    have c4 : (M + 1) * spc T M = spc T M * M + spc T M := by rw [Int.add_mul, Int.one_mul, Int.mul_comm]
    omega
  · rw [if_neg hc, if_neg hc, if_neg (show ¬ q + 1 = 0 by omega), if_neg (show ¬ q = T - M - 1 by omega)]
    refine ⟨?_, rfl, hq.1⟩
    have c4 : (q + 1) * spc T M = spc T M * q + spc T M := by rw [Int.add_mul, Int.one_mul, Int.mul_comm]
    omega
end Go.Proofs.Ythfliohfkhnpiaa

