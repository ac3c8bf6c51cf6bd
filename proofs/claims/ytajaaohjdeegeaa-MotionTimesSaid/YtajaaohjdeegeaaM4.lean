/- Motions: what positions and times are to each other, and the laws. -/
import Derived.Test.YtajaaohjdeegeaaM3
namespace Go.Proofs.Ytajaaohjdeegeaa
set_option linter.unusedVariables false
set_option linter.unusedSimpArgs false
open Go.RowKit

theorem way_zero : ∀ (l : List (List Int)) (e : Int), vL e l = true → way 0 l = 0
  | [], _, _ => rfl
  | r :: l, e, hv => by
    obtain ⟨⟨a1, a2, a3, a4⟩, a5, a6⟩ := vL_cons hv
    simp only [way]
    rw [show min (0 : Int) (r0 r) = 0 by omega, show (0 : Int) - 0 = 0 from rfl, way_zero l _ a6]
    omega
theorem way_more : ∀ (l : List (List Int)) (e u d : Int), vL e l = true → 0 ≤ u → 0 ≤ d → way u l ≤ way (u + d) l
  | [], _, _, _, _, _, _ => Int.le_refl _
  | r :: l, e, u, d, hv, h0, h1 => by
    obtain ⟨⟨a1, a2, a3, a4⟩, a5, a6⟩ := vL_cons hv
    simp only [way]
    by_cases h : u < r0 r
    · have hz := way_zero l _ a6
      rw [show min u (r0 r) = u by omega, show u - u = 0 by omega, hz]
      have hb := (way_bd l _ (u + d - min (u + d) (r0 r)) a6 (by omega)).1
      have hm : u * r1 r ≤ min (u + d) (r0 r) * r1 r := Int.mul_le_mul_of_nonneg_right (by omega) a3
      omega
    · rw [show min u (r0 r) = r0 r by omega, show min (u + d) (r0 r) = r0 r by omega]
      have := way_more l _ (u - r0 r) d a6 (by omega) h1
      rw [show u + d - r0 r = u - r0 r + d by omega]
      omega
theorem upq_le {a b u : Int} (hb : 1 ≤ b) : upq a b ≤ u ↔ a ≤ u * b := by
  have h := Int.le_ediv_iff_mul_le (a := -u) (b := -a) (c := b) (by omega)
  unfold upq
  rw [Int.neg_mul] at h
  omega
theorem tmW_key : ∀ (l : List (List Int)) (nd tt : Int), vL tt l = true → 1 ≤ nd → (∃ u, 0 ≤ u ∧ nd ≤ way u l) →
    (tmW nd tt l).2 = 0 ∧ tt ≤ (tmW nd tt l).1 ∧ (tmW nd tt l).1 ≤ tt + endL l ∧ ∀ u, 0 ≤ u → (nd ≤ way u l ↔ (tmW nd tt l).1 - tt ≤ u)
  | [], nd, tt, _, h1, ⟨u, _, h2⟩ => by simp only [way] at h2; omega
  | r :: l, nd, tt, hv, h1, ⟨u, h0, h2⟩ => by
    obtain ⟨⟨a1, a2, a3, a4⟩, a5, a6⟩ := vL_cons hv
    have hz := way_zero l _ a6
    simp only [tmW, endL]
    by_cases hc : r0 r * r1 r < nd
    · rw [if_pos hc]
      have hlt : ∀ v, 0 ≤ v → nd ≤ way v (r :: l) → r0 r ≤ v := by
        intro v hv0 hw
        rcases Int.lt_or_le v (r0 r) with h | h
        · simp only [way] at hw
          rw [show min v (r0 r) = v by omega, show v - v = 0 by omega, hz] at hw
          have := Int.mul_le_mul_of_nonneg_right (show v ≤ r0 r by omega) a3
          omega
        · exact h
      have hge : ∀ v, r0 r ≤ v → way v (r :: l) = r0 r * r1 r + way (v - r0 r) l := by
        intro v hv0
        simp only [way]
        rw [show min v (r0 r) = r0 r by omega]
      have hu := hlt u h0 h2
      rw [hge u hu] at h2
      obtain ⟨g1, g2, g3, g4⟩ := tmW_key l (nd - r0 r * r1 r) (tt + r0 r) a6 (by omega) ⟨u - r0 r, by omega, by omega⟩
      refine ⟨g1, by omega, by omega, fun v hv0 => ?_⟩
      constructor
      · intro hw
        have hv1 := hlt v hv0 hw
        rw [hge v hv1] at hw
        have := (g4 (v - r0 r) (by omega)).1 (by omega)
        omega
      · intro hw
        have hv1 : r0 r ≤ v := by omega
        rw [hge v hv1]
        have := (g4 (v - r0 r) (by omega)).2 (by omega)
        omega
    · rw [if_neg hc]
      have hr1 : 1 ≤ r1 r := by
        rcases Int.lt_or_le 0 (r1 r) with h | h
        · omega
        · have : r1 r = 0 := by omega
          rw [this] at hc
          omega
      have hend := (endL_bd l _ a5 a6).1
      have h3 : upq nd (r1 r) ≤ r0 r := (upq_le hr1).2 (by omega)
      have h4 : ¬ upq nd (r1 r) ≤ 0 := fun h => by have := (upq_le hr1).1 h; omega
      refine ⟨rfl, by simp only []; omega, by simp only []; omega, fun v hv0 => ?_⟩
      simp only [way]
      rw [show tt + upq nd (r1 r) - tt = upq nd (r1 r) by omega]
      rcases Int.lt_or_le v (r0 r) with h | h
      · rw [show min v (r0 r) = v by omega, show v - v = 0 by omega, hz, upq_le hr1]
        omega
      · rw [show min v (r0 r) = r0 r by omega]
        have := (way_bd l _ (v - r0 r) a6 (by omega)).1
        constructor
        · intro _; omega
        · intro _; omega
/-- The first time of a position. -/
theorem tm_key {s : Int} {l : List (List Int)} {p : Int} (hm : mValid s l = true) :
    ((tmOf s l p).2 = 0 ∨ (tmOf s l p).2 = 7) ∧ ((tmOf s l p).2 = 7 → (tmOf s l p).1 = 0) ∧ ((tmOf s l p).2 = 0 ↔ p ≤ s + way 1099511627776 l / 65536) ∧
    ((tmOf s l p).2 = 0 → 0 ≤ (tmOf s l p).1 ∧ (tmOf s l p).1 ≤ endL l ∧ ∀ u, 0 ≤ u → (p ≤ s + way u l / 65536 ↔ (tmOf s l p).1 ≤ u)) := by
  obtain ⟨v1, v2, v3⟩ := mV_iff.1 hm
  have he : mErr s l 1099511627776 = 0 := mErr_zero.2 ⟨hm, by omega, by omega⟩
  have hpo : posOf s l 1099511627776 = s + way 1099511627776 l / 65536 := by unfold posOf; rw [if_pos he]
  have hw := way_bd l 0 1099511627776 v3 (by omega)
  have hend := endL_bd l 0 (by omega) v3
  unfold tmOf
  rw [if_pos hm, hpo]
  by_cases h1 : p ≤ s
  · rw [if_pos h1]
    refine ⟨.inl rfl, fun h => by simp at h, by simp; omega, fun _ => ⟨by simp, by simp; omega, fun u hu => ?_⟩⟩
    have := way_bd l 0 u v3 hu
    simp only []
    omega
  · rw [if_neg h1]
    by_cases h2 : s + way 1099511627776 l / 65536 < p
    · rw [if_pos h2]
      refine ⟨.inr rfl, fun _ => rfl, by simp; omega, fun h => by simp at h⟩
    · rw [if_neg h2]
      obtain ⟨g1, g2, g3, g4⟩ := tmW_key l ((p - s) * 65536) 0 v3 (by omega) ⟨1099511627776, by omega, by omega⟩
      refine ⟨.inl g1, fun h => by omega, by omega, fun _ => ⟨g2, by omega, fun u hu => ?_⟩⟩
      have := g4 u hu
      omega
end Go.Proofs.Ytajaaohjdeegeaa

