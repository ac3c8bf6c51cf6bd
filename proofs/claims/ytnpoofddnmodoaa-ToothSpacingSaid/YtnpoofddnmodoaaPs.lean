/- Plain laws on the distances of accepted edges. -/
import Derived.Test.YtnpoofddnmodoaaPl
namespace Go.Proofs.Ytnpoofddnmodoaa

/-- The limit behind the accepted edge with the index i. -/
def lim (m : List Int) (i : Nat) : Int := if i = 0 then 20 else bl (m.getD i 0 - m.getD (i - 1) 0)

/-- Behind i edges of l, k of them accepted; m: all accepted edges. -/
structure SpRel (m l : List Int) (i k : Nat) : Prop where
  ex : ∃ sn la pe, m.drop k = runP sn la pe (l.drop i) ∧ (k = 0 → sn = false) ∧ (0 < k → sn = true ∧ la = m.getD (k - 1) 0 ∧ bl pe = lim m (k - 1))
  le : k ≤ m.length

theorem SpRel.start (m l : List Int) (h : m = runP false 0 0 l) : SpRel m l 0 0 := ⟨⟨false, 0, 0, by simpa using h, fun _ => rfl, fun h => absurd h (Nat.lt_irrefl _)⟩, Nat.zero_le _⟩

theorem runP_mem (l : List Int) : ∀ sn la pe x, x ∈ runP sn la pe l → x ∈ l := by
  induction l with
  | nil => intro sn la pe x h; simp [runP] at h
  | cons t r ih =>
    intro sn la pe x h
    rw [runP] at h
    split at h
    · exact List.mem_cons_of_mem _ (ih _ _ _ _ h)
    · rcases List.mem_cons.1 h with h | h
      · rw [h]; exact List.mem_cons_self
      · exact List.mem_cons_of_mem _ (ih _ _ _ _ h)

theorem bl0 : bl 0 = 20 := by decide

/-- What the round with the edge i meets: it is accepted, or rejected. -/
theorem SpRel.round {m l : List Int} {i k : Nat} (h : SpRel m l i k) (hi : i < l.length) (hp : l.Pairwise (· < ·)) :
    (k < m.length ∧ m.getD k 0 = l.getD i 0 ∧ (0 < k → lim m (k - 1) ≤ l.getD i 0 - m.getD (k - 1) 0) ∧ SpRel m l (i + 1) (k + 1)) ∨
    (0 < k ∧ (k < m.length → m.getD k 0 ≠ l.getD i 0) ∧ l.getD i 0 - m.getD (k - 1) 0 < lim m (k - 1) ∧ SpRel m l (i + 1) k) := by
  obtain ⟨⟨sn, la, pe, h1, h2, h3⟩, hle⟩ := h
  have hd : l.drop i = l.getD i 0 :: l.drop (i + 1) := by
    rw [List.drop_eq_getElem_cons hi]; simp [List.getElem?_eq_getElem hi]
  rw [hd, runP] at h1
  split at h1
  · rename_i hc
    right
    have hk : 0 < k := by
      rcases Nat.eq_zero_or_pos k with h | h
      · rw [h2 h] at hc; simp at hc
      · exact h
    obtain ⟨e1, e2, e3⟩ := h3 hk
    refine ⟨hk, fun hkm e => ?_, by rw [← e2, ← e3]; exact hc.2, ⟨⟨sn, la, pe, h1, h2, h3⟩, hle⟩⟩
    have hmem : m.getD k 0 ∈ l.drop (i + 1) := by
      refine runP_mem _ sn la pe _ ?_
      rw [← h1, drop_cons m k hkm]
      exact List.mem_cons_self
    have hp2 := hp.sublist (List.drop_sublist i l)
    rw [hd, List.pairwise_cons] at hp2
    have := hp2.1 _ hmem
    omega
  · rename_i hc
    left
    have hkm : k < m.length := by
      rcases Nat.lt_or_ge k m.length with h | h
      · exact h
      · rw [List.drop_eq_nil_of_le h] at h1; cases h1
    have hmk := h1
    rw [List.drop_eq_getElem_cons hkm] at hmk
    simp only [List.cons.injEq] at hmk
    obtain ⟨q1, q2⟩ := hmk
    have q3 : m.getD k 0 = l.getD i 0 := by rw [← q1]; simp [List.getElem?_eq_getElem hkm]
    refine ⟨hkm, q3, fun hk => ?_, ⟨⟨true, l.getD i 0, _, q2, fun h => absurd h (Nat.succ_ne_zero _), fun _ => ⟨rfl, by simpa using q3.symm, ?_⟩⟩, hkm⟩⟩
    · obtain ⟨e1, e2, e3⟩ := h3 hk
      rw [← e2, ← e3]
      have : ¬ (l.getD i 0 - la < bl pe) := fun h => hc ⟨e1, h⟩
      omega
    · rcases Nat.eq_zero_or_pos k with h | h
      · rw [h2 h, h]; simp [lim, bl0]
      · obtain ⟨e1, e2, e3⟩ := h3 h
        rw [e1, if_pos rfl]
        unfold lim
        rw [Nat.add_sub_cancel, if_neg (by omega), q3, e2]

theorem SpRel.finish {m l : List Int} {k : Nat} (h : SpRel m l l.length k) : k = m.length := by
  obtain ⟨⟨sn, la, pe, h1, _⟩, hle⟩ := h
  simp [runP] at h1
  omega

theorem runL_head {l : List Int} (h : edgesB l = true) (h0 : 0 < l.length) : 0 < (runL l).length ∧ (runL l).getD 0 0 = l.getD 0 0 := by
  rw [runL_eq h]
  cases l with
  | nil => simp at h0
  | cons t r => simp [runP]

end Go.Proofs.Ytnpoofddnmodoaa
