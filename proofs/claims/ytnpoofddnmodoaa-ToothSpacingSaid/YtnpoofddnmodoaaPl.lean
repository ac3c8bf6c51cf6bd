/- Plain laws on the accepted edges of a list: no walk in sight. -/
import Derived.Test.YtnpoofddnmodoaaLst
namespace Go.Proofs.Ytnpoofddnmodoaa

theorem edgesB_pair (l : List Int) : edgesB l = true ↔ l.length ≤ 1000 ∧ (∀ x ∈ l, isTime x = true) ∧ l.Pairwise (· < ·) := by
  rw [edgesB_iff]
  constructor
  · rintro ⟨h1, h2⟩
    refine ⟨h1, fun x hx => ?_, ?_⟩
    · obtain ⟨i, hi, rfl⟩ := List.getElem_of_mem hx
      have := h2 i hi
      simp only [edgeAt, Bool.and_eq_true] at this
      simpa [List.getElem?_eq_getElem hi] using this.1
    · rw [List.pairwise_iff_getElem]
      intro i j hi hj hij
      have := mono_lt h2 j hj i hij
      simpa [List.getElem?_eq_getElem hi, List.getElem?_eq_getElem hj] using this
  · rintro ⟨h1, h2, h3⟩
    refine ⟨h1, fun j hj => ?_⟩
    rw [List.pairwise_iff_getElem] at h3
    have e1 : isTime (l.getD j 0) = true := by
      have := h2 l[j] (List.getElem_mem hj)
      simpa [List.getElem?_eq_getElem hj] using this
    simp only [edgeAt, e1, Bool.true_and, Bool.or_eq_true, decide_eq_true_eq]
    rcases Nat.eq_zero_or_pos j with h | h
    · exact .inl h
    · right
      have := h3 (j - 1) j (by omega) hj (by omega)
      simpa [List.getElem?_eq_getElem hj, List.getElem?_eq_getElem (show j - 1 < l.length by omega)] using this

theorem edgesB_sub {l m : List Int} (h : edgesB l = true) (hs : List.Sublist m l) : edgesB m = true := by
  rw [edgesB_pair] at h ⊢
  exact ⟨Nat.le_trans hs.length_le h.1, fun x hx => h.2.1 x (hs.subset hx), h.2.2.sublist hs⟩

theorem runF_sub (l : List Int) : ∀ sn la pe, List.Sublist (runF sn la pe l) l := by
  induction l with
  | nil => intro sn la pe; exact List.Sublist.slnil
  | cons t r ih =>
    intro sn la pe
    rw [runF]
    split
    · exact (ih _ _ _).cons_cons t
    · exact (ih _ _ _).cons t

theorem runF_idem (l : List Int) : ∀ sn la pe, runF sn la pe (runF sn la pe l) = runF sn la pe l := by
  induction l with
  | nil => intro sn la pe; rfl
  | cons t r ih =>
    intro sn la pe
    by_cases h : (stepR sn la pe t).ok = true
    · rw [runF, if_pos h, runF, if_pos h, ih]
    · rw [runF, if_neg h, ih]

theorem runF_take (l : List Int) : ∀ k sn la pe, runF sn la pe (l.take k) = (runF sn la pe l).take (runF sn la pe (l.take k)).length ∧ (runF sn la pe (l.take k)).length ≤ (runF sn la pe l).length := by
  induction l with
  | nil => intro k sn la pe; simp [runF]
  | cons t r ih =>
    intro k sn la pe
    cases k with
    | zero => simp [runF]
    | succ k =>
      rw [List.take_succ_cons]
      by_cases h : (stepR sn la pe t).ok = true
      · rw [runF, if_pos h]
        have := ih k (stepR sn la pe t).sn (stepR sn la pe t).la (stepR sn la pe t).pe
        rw [show runF sn la pe (t :: r) = t :: runF (stepR sn la pe t).sn (stepR sn la pe t).la (stepR sn la pe t).pe r from by rw [runF, if_pos h]]
        refine ⟨?_, by simpa using this.2⟩
        rw [List.length_cons, List.take_succ_cons, ← this.1]
      · rw [runF, if_neg h]
        rw [show runF sn la pe (t :: r) = runF sn la pe r from by rw [runF, if_neg h]]
        exact ih k sn la pe

/-- The pure acceptance, for valid states and lists. -/
def bl (pe : Int) : Int := if pe / 4 > 20 then pe / 4 else 20
def runP (sn : Bool) (la pe : Int) : List Int → List Int
  | [] => []
  | t :: r => if sn = true ∧ t - la < bl pe then runP sn la pe r else t :: runP true t (if sn = true then t - la else 0) r

theorem runF_eq (l : List Int) : ∀ sn la pe, vld sn la pe = true → (∀ x ∈ l, isTime x = true) → l.Pairwise (· < ·) → (sn = true → ∀ x ∈ l, la ≤ x) → runF sn la pe l = runP sn la pe l := by
  induction l with
  | nil => intros; rfl
  | cons t r ih =>
    intro sn la pe hv ht hp hl
    have htt := ht t (by simp)
    have htr : ∀ x ∈ r, isTime x = true := fun x hx => ht x (by simp [hx])
    rw [List.pairwise_cons] at hp
    have hv' := hv
    simp only [vld, decide_eq_true_eq] at hv'
    have ht2 := htt
    simp only [isTime, decide_eq_true_eq] at ht2
    cases sn with
    | false =>
      have hs : stepR false la pe t = ⟨true, t, 0, true, 0⟩ := by simp [stepR, hv, htt]
      rw [runF, runP, hs, if_pos rfl, if_neg (by simp), if_neg (by simp)]
      rw [ih true t 0 (by simp [vld]; omega) htr hp.2 (fun _ x hx => Int.le_of_lt (hp.1 x hx))]
    | true =>
      have hle := hl rfl t (by simp)
      have hb : blk true la pe = bl pe := by unfold blk bl; rw [if_pos ⟨hv, rfl⟩]
      by_cases hk : t - la < bl pe
      · have hs : stepR true la pe t = ⟨true, la, pe, false, 0⟩ := by simp [stepR, hv, htt, hb, hk]; omega
        rw [runF, runP, hs, if_neg (by simp), if_pos ⟨rfl, hk⟩]
        exact ih true la pe hv htr hp.2 (fun _ x hx => hl rfl x (by simp [hx]))
      · have hs : stepR true la pe t = ⟨true, t, t - la, true, 0⟩ := by simp [stepR, hv, htt, hb, hk]; omega
        rw [runF, runP, hs, if_pos rfl, if_neg (by simp [hk]), if_pos rfl]
        rw [ih true t (t - la) (by simp [vld]; omega) htr hp.2 (fun _ x hx => Int.le_of_lt (hp.1 x hx))]

theorem runL_eq {l : List Int} (h : edgesB l = true) : runL l = runP false 0 0 l := by
  rw [edgesB_pair] at h
  exact runF_eq l false 0 0 (by decide) h.2.1 h.2.2 (fun h => by cases h)

theorem runP_shift (b : Int) (l : List Int) : ∀ la pe, runP true (la + b) pe (l.map (· + b)) = (runP true la pe l).map (· + b) := by
  induction l with
  | nil => intros; rfl
  | cons t r ih =>
    intro la pe
    simp only [List.map_cons, runP, true_and]
    have e : t + b - (la + b) = t - la := by omega
    rw [e]
    by_cases hk : t - la < bl pe
    · rw [if_pos hk, if_pos hk, ih]
    · rw [if_neg hk, if_neg hk, List.map_cons]
      simp only [if_true]
      rw [ih]

theorem runL_shift {l : List Int} (b : Int) (h : edgesB l = true) (h2 : edgesB (l.map (· + b)) = true) : runL (l.map (· + b)) = (runL l).map (· + b) := by
  rw [runL_eq h, runL_eq h2]
  cases l with
  | nil => rfl
  | cons t r =>
    simp only [List.map_cons, runP, Bool.false_eq_true, false_and, if_false]
    rw [runP_shift]

theorem edgesB_shift {l : List Int} (b : Int) (h : edgesB l = true) (hb : 0 ≤ b) (hl : ∀ x ∈ l, x + b ≤ 1099511627776) : edgesB (l.map (· + b)) = true := by
  rw [edgesB_pair] at h ⊢
  refine ⟨by simpa using h.1, fun x hx => ?_, ?_⟩
  · obtain ⟨y, hy, rfl⟩ := List.mem_map.1 hx
    have h1 := h.2.1 y hy
    have h2 := hl y hy
    simp only [isTime, decide_eq_true_eq] at h1 ⊢
    omega
  · rw [List.pairwise_map]
    exact h.2.2.imp (fun h => by omega)

end Go.Proofs.Ytnpoofddnmodoaa
