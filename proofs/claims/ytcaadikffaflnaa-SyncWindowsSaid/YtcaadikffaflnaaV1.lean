/- Contracts of the small functions of layers 16 and 20: wheels, states of synchronization. -/
import Derived.Test.YtcaadikffaflnaaBase
namespace Go.Proofs.Ytcaadikffaflnaa
open Go.RowKit Go.Sort

abbrev wv (T M : Int) : Value := .agg #[.int .i64 T, .int .i64 M]
def wvld (T M : Int) : Bool := decide ((M = 1 ∨ M = 2) ∧ 12 ≤ T ∧ T ≤ 120 ∧ 8 * M ≤ T ∧ 23040 % T = 0)
theorem wvld_bd {T M : Int} (h : wvld T M = true) : 1 ≤ M ∧ M ≤ 2 ∧ 12 ≤ T ∧ T ≤ 120 ∧ 8 * M ≤ T := by simp [wvld] at h; omega

theorem wvalid_any (T M : Int) (w : World) : Calls Try.prog 29 #[wv T M] w fun e w' => e = .returned (.bool (wvld T M)) ∧ Below w.heap.size w w' := by
  by_cases m1 : M = 1
  · subst m1
    go_enter Try.func29, Try.ntmps29
    go_wp2
    all_goals (go_ret; exact ⟨ret_bool (by simp [wvld] <;> omega), (Below.refl _ _).alloc (Nat.le_refl _) _⟩)
  · by_cases m2 : M = 2
    · subst m2
      go_enter Try.func29, Try.ntmps29
      go_wp2
      all_goals (go_ret; exact ⟨ret_bool (by simp [wvld] <;> omega), (Below.refl _ _).alloc (Nat.le_refl _) _⟩)
    · have e1 : (M == 1) = false := by rw [beq_eq_false_iff_ne]; exact m1
      have e2 : (M == 2) = false := by rw [beq_eq_false_iff_ne]; exact m2
      go_enter Try.func29, Try.ntmps29
      go_wp2
      all_goals (go_ret; exact ⟨ret_bool (by simp [wvld] <;> omega), (Below.refl _ _).alloc (Nat.le_refl _) _⟩)

theorem rwvalid_any (T M : Int) (w : World) : Calls Try.prog 34 #[wv T M] w fun e w' => e = .returned (.bool (wvld T M)) ∧ Below w.heap.size w w' := by
  by_cases m1 : M = 1
  · subst m1
    go_enter Try.func34, Try.ntmps34
    go_wp2
    all_goals (go_ret; exact ⟨ret_bool (by simp [wvld] <;> omega), (Below.refl _ _).alloc (Nat.le_refl _) _⟩)
  · by_cases m2 : M = 2
    · subst m2
      go_enter Try.func34, Try.ntmps34
      go_wp2
      all_goals (go_ret; exact ⟨ret_bool (by simp [wvld] <;> omega), (Below.refl _ _).alloc (Nat.le_refl _) _⟩)
    · have e1 : (M == 1) = false := by rw [beq_eq_false_iff_ne]; exact m1
      have e2 : (M == 2) = false := by rw [beq_eq_false_iff_ne]; exact m2
      go_enter Try.func34, Try.ntmps34
      go_wp2
      all_goals (go_ret; exact ⟨ret_bool (by simp [wvld] <;> omega), (Below.refl _ _).alloc (Nat.le_refl _) _⟩)

theorem wteeth_ok (T M : Int) (w : World) (h : wvld T M = true) : Calls Try.prog 14 #[wv T M] w fun e w' => e = .returned (.int .i64 (T - M)) ∧ Below w.heap.size w w' := by
  obtain ⟨h1, h2, h3, h4, _⟩ := wvld_bd h
  go_enter Try.func14, Try.ntmps14
  go_wp2_with (go_at_call 29; refine (wvalid_any _ _ _).mono ?_; rintro e w1 ⟨rfl, hbw1⟩; obtain ⟨hcw1, hfw1⟩ := bcell hbw1; have hzw1 := hbw1.size; (try simp at hzw1); (try have hs0w1 : w.heap.size < w1.heap.size := by omega); (try have hs1w1 : w.heap.size + 1 < w1.heap.size := by omega); (try have hs2w1 : w.heap.size + 1 + 1 < w1.heap.size := by omega); (try have hs3w1 : w.heap.size + 1 + 1 + 1 < w1.heap.size := by omega); (try have hs_w1_w1 : w1.heap.size < w1.heap.size := by omega); (try have hs_w1p_w1 : w1.heap.size + 1 < w1.heap.size := by omega); (try have hs_w2_w1 : w2.heap.size < w1.heap.size := by omega); (try have hs_w2p_w1 : w2.heap.size + 1 < w1.heap.size := by omega); (try have hs_w3_w1 : w3.heap.size < w1.heap.size := by omega); (try have hs_w3p_w1 : w3.heap.size + 1 < w1.heap.size := by omega); (try have hs_w4_w1 : w4.heap.size < w1.heap.size := by omega); (try have hs_w4p_w1 : w4.heap.size + 1 < w1.heap.size := by omega); (try have hs_w5_w1 : w5.heap.size < w1.heap.size := by omega); (try have hs_w5p_w1 : w5.heap.size + 1 < w1.heap.size := by omega); (try have hs_w6_w1 : w6.heap.size < w1.heap.size := by omega); (try have hs_w6p_w1 : w6.heap.size + 1 < w1.heap.size := by omega))
  go_ret
  refine ⟨rfl, ?_⟩
  repeat' (first | exact Below.refl _ _ | assumption | (refine Below.setCell ?_ (by first | omega | (simp <;> omega)) _) | (refine Below.alloc ?_ (by first | omega | (simp <;> omega)) _) | (refine Below.drew ?_) | (refine Below.trans ?_ (Below.mono (by assumption) (by first | omega | (simp <;> omega)))))

theorem rwteeth_ok (T M : Int) (w : World) (h : wvld T M = true) : Calls Try.prog 35 #[wv T M] w fun e w' => e = .returned (.int .i64 (T - M)) ∧ Below w.heap.size w w' := by
  obtain ⟨h1, h2, h3, h4, _⟩ := wvld_bd h
  go_enter Try.func35, Try.ntmps35
  go_wp2_with (go_at_call 34; refine (rwvalid_any _ _ _).mono ?_; rintro e w1 ⟨rfl, hbw1⟩; obtain ⟨hcw1, hfw1⟩ := bcell hbw1; have hzw1 := hbw1.size; (try simp at hzw1); (try have hs0w1 : w.heap.size < w1.heap.size := by omega); (try have hs1w1 : w.heap.size + 1 < w1.heap.size := by omega); (try have hs2w1 : w.heap.size + 1 + 1 < w1.heap.size := by omega); (try have hs3w1 : w.heap.size + 1 + 1 + 1 < w1.heap.size := by omega); (try have hs_w1_w1 : w1.heap.size < w1.heap.size := by omega); (try have hs_w1p_w1 : w1.heap.size + 1 < w1.heap.size := by omega); (try have hs_w2_w1 : w2.heap.size < w1.heap.size := by omega); (try have hs_w2p_w1 : w2.heap.size + 1 < w1.heap.size := by omega); (try have hs_w3_w1 : w3.heap.size < w1.heap.size := by omega); (try have hs_w3p_w1 : w3.heap.size + 1 < w1.heap.size := by omega); (try have hs_w4_w1 : w4.heap.size < w1.heap.size := by omega); (try have hs_w4p_w1 : w4.heap.size + 1 < w1.heap.size := by omega); (try have hs_w5_w1 : w5.heap.size < w1.heap.size := by omega); (try have hs_w5p_w1 : w5.heap.size + 1 < w1.heap.size := by omega); (try have hs_w6_w1 : w6.heap.size < w1.heap.size := by omega); (try have hs_w6p_w1 : w6.heap.size + 1 < w1.heap.size := by omega))
  go_ret
  refine ⟨rfl, ?_⟩
  repeat' (first | exact Below.refl _ _ | assumption | (refine Below.setCell ?_ (by first | omega | (simp <;> omega)) _) | (refine Below.alloc ?_ (by first | omega | (simp <;> omega)) _) | (refine Below.drew ?_) | (refine Below.trans ?_ (Below.mono (by assumption) (by first | omega | (simp <;> omega)))))

def isTime (t : Int) : Bool := decide (0 ≤ t ∧ t ≤ 1099511627776)
theorem time_bd {t : Int} (h : isTime t = true) : 0 ≤ t ∧ t ≤ 1099511627776 := by simpa [isTime] using h

theorem time_any (t : Int) (w : World) : Calls Try.prog 31 #[.int .i64 t] w fun e w' => e = .returned (.bool (isTime t)) ∧ w = w' := by
  go_enter Try.func31, Try.ntmps31
  go_wp2
  all_goals (go_ret; exact ⟨ret_bool (by simp [isTime] <;> omega), rfl⟩)

theorem time_b (t : Int) (w : World) : Calls Try.prog 31 #[.int .i64 t] w fun e w' => e = .returned (.bool (isTime t)) ∧ Below w.heap.size w w' :=
  (time_any t w).mono fun _ _ ⟨h1, h2⟩ => ⟨h1, h2 ▸ Below.refl _ _⟩

theorem rtime_any (t : Int) (w : World) : Calls Try.prog 19 #[.int .i64 t] w fun e w' => e = .returned (.bool (isTime t)) ∧ w = w' := by
  go_enter Try.func19, Try.ntmps19
  go_wp2
  all_goals (go_ret; exact ⟨ret_bool (by simp [isTime] <;> omega), rfl⟩)

theorem rtime_b (t : Int) (w : World) : Calls Try.prog 19 #[.int .i64 t] w fun e w' => e = .returned (.bool (isTime t)) ∧ Below w.heap.size w w' :=
  (rtime_any t w).mono fun _ _ ⟨h1, h2⟩ => ⟨h1, h2 ▸ Below.refl _ _⟩

def fitsB (p q : Int) : Bool := decide (4 * (p - q) ≤ q ∧ 4 * (q - p) ≤ q)

theorem fits_any (p q : Int) (w : World) (hp0 : 0 ≤ p) (hp1 : p ≤ 4398046511104) (hq0 : 0 ≤ q) (hq1 : q ≤ 4398046511104) : Calls Try.prog 39 #[.int .i64 p, .int .i64 q] w fun e w' => e = .returned (.bool (fitsB p q)) ∧ w = w' := by
  by_cases h : p < q
  · go_enter Try.func39, Try.ntmps39
    go_wp2
    all_goals (go_ret; exact ⟨ret_bool (by simp [fitsB] <;> omega), rfl⟩)
  · go_enter Try.func39, Try.ntmps39
    go_wp2
    all_goals (go_ret; exact ⟨ret_bool (by simp [fitsB] <;> omega), rfl⟩)

theorem rfits_any (p q : Int) (w : World) (hp0 : 0 ≤ p) (hp1 : p ≤ 4398046511104) (hq0 : 0 ≤ q) (hq1 : q ≤ 4398046511104) : Calls Try.prog 36 #[.int .i64 p, .int .i64 q] w fun e w' => e = .returned (.bool (fitsB p q)) ∧ w = w' := by
  by_cases h : p < q
  · go_enter Try.func36, Try.ntmps36
    go_wp2
    all_goals (go_ret; exact ⟨ret_bool (by simp [fitsB] <;> omega), rfl⟩)
  · go_enter Try.func36, Try.ntmps36
    go_wp2
    all_goals (go_ret; exact ⟨ret_bool (by simp [fitsB] <;> omega), rfl⟩)

/-- Whether p is a gap for n, M missing teeth. -/
def gapB (M n p : Int) : Bool := if M = 1 then decide (3 * n < 2 * p) else decide (2 * n < p)

theorem gap_any (T M n p : Int) (w : World) (hn0 : 0 ≤ n) (hn1 : n ≤ 1099511627776) (hp0 : 0 ≤ p) (hp1 : p ≤ 1099511627776) : Calls Try.prog 33 #[wv T M, .int .i64 n, .int .i64 p] w fun e w' => e = .returned (.bool (gapB M n p)) ∧ Below w.heap.size w w' := by
  by_cases h : M = 1
  · subst h
    go_enter Try.func33, Try.ntmps33
    go_wp2
    all_goals (go_ret; exact ⟨ret_bool (by simp [gapB]), (Below.refl _ _).alloc (Nat.le_refl _) _⟩)
  · have e1 : (M == 1) = false := by rw [beq_eq_false_iff_ne]; exact h
    have e2 : gapB M n p = decide (2 * n < p) := by unfold gapB; rw [if_neg h]
    rw [e2]
    clear e2 h
    go_enter Try.func33, Try.ntmps33
    go_wp2
    all_goals (go_ret; exact ⟨ret_bool (by simp), (Below.refl _ _).alloc (Nat.le_refl _) _⟩)

end Go.Proofs.Ytcaadikffaflnaa
