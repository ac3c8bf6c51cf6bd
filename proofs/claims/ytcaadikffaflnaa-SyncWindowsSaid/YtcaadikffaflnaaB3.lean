/- SyncWindows: a Locked state stays Locked exactly if the next edge is in its window, and then the tooth is the next one. The walk of the law. -/
import Derived.Test.YtcaadikffaflnaaVh
import Derived.Test.YtcaadikffaflnaaV3
import Derived.Test.YtcaadikffaflnaaVg
namespace Go.Proofs.Ytcaadikffaflnaa
open Go.RowKit Go.Sort

/-- The tooth after a tooth. -/
def nextT (T M th : Int) : Int := if th + 1 = T - M then 0 else th + 1
def nextN (T M th p : Int) : Int := if th + 1 = T - M then p / (M + 1) else p

theorem lock_in {T M th la no te t : Int} (h1 : winLow T M th la no ≤ t) (h2 : t ≤ winHigh T M th la no) : stepS T M 2 th la no te t = ⟨2, nextT T M th, t, t - la, nextN T M th (t - la), 0⟩ := by
  unfold winLow at h1
  unfold winHigh at h2
  unfold stepS
  have hf : fitsB (t - la) (expc T M th no) = true := by unfold fitsB; exact decide_eq_true (by omega)
  rw [if_neg (by decide), if_pos rfl, if_neg (by rw [hf]; decide)]
  unfold nextT nextN
  by_cases hl : th = T - M - 1
  · rw [if_pos hl, if_pos (by omega), if_pos (by omega)]
  · rw [if_neg hl, if_neg (by omega), if_neg (by omega)]

theorem lock_out {T M th la no te t : Int} (h : ¬ (winLow T M th la no ≤ t ∧ t ≤ winHigh T M th la no)) : stepS T M 2 th la no te t = ⟨0, 0, 0, 0, 0, 0⟩ := by
  unfold winLow winHigh at h
  unfold stepS
  have hf : fitsB (t - la) (expc T M th no) = false := by unfold fitsB; exact decide_eq_false (by omega)
  rw [if_neg (by decide), if_pos rfl, if_pos hf]

set_option maxHeartbeats 1000000 in
theorem windows_no (T M m th la pe no te af : Int) (w : World) (h : svld T M m th la pe no te = false ∨ m ≠ 2) : Calls Try.prog 6 #[wv T M, sv m th la pe no te, .int .u32 af] w fun e w' => e = .returned (.bool true) ∧ Below w.heap.size w w' := by
  have HH := Lib.hid h
  by_cases hv : svld T M m th la pe no te = true
  · have hm : m ≠ 2 := by
      rcases h with h | h
      · rw [h] at hv; cases hv
      · exact h
    have e1 : (m != 2) = true := by rw [bne_iff_ne]; exact hm
    clear h hm
    go_enter Try.func6, Try.ntmps6
    go_wp2_with (first
      | (go_at_call 9; refine (awake_any _).mono ?_; rintro e w1 ⟨rfl, hbw1⟩; obtain ⟨hcw1, hfw1⟩ := bcell hbw1; have hzw1 := hbw1.size; (try simp at hzw1); (try have hs0w1 : w.heap.size < w1.heap.size := by omega); (try have hs1w1 : w.heap.size + 1 < w1.heap.size := by omega); (try have hs2w1 : w.heap.size + 1 + 1 < w1.heap.size := by omega); (try have hs3w1 : w.heap.size + 1 + 1 + 1 < w1.heap.size := by omega); (try have hs_w1_w1 : w1.heap.size < w1.heap.size := by omega); (try have hs_w1p_w1 : w1.heap.size + 1 < w1.heap.size := by omega); (try have hs_w2_w1 : w2.heap.size < w1.heap.size := by omega); (try have hs_w2p_w1 : w2.heap.size + 1 < w1.heap.size := by omega); (try have hs_w3_w1 : w3.heap.size < w1.heap.size := by omega); (try have hs_w3p_w1 : w3.heap.size + 1 < w1.heap.size := by omega); (try have hs_w4_w1 : w4.heap.size < w1.heap.size := by omega); (try have hs_w4p_w1 : w4.heap.size + 1 < w1.heap.size := by omega); (try have hs_w5_w1 : w5.heap.size < w1.heap.size := by omega); (try have hs_w5p_w1 : w5.heap.size + 1 < w1.heap.size := by omega); (try have hs_w6_w1 : w6.heap.size < w1.heap.size := by omega); (try have hs_w6p_w1 : w6.heap.size + 1 < w1.heap.size := by omega))
      | (go_at_call 21; refine (window_no _ _ _ _ _ _ _ _ _ HH.out).mono ?_; rintro e w2 ⟨rfl, hbw2⟩; obtain ⟨hcw2, hfw2⟩ := bcell hbw2; have hzw2 := hbw2.size; (try simp at hzw2); (try have hs0w2 : w.heap.size < w2.heap.size := by omega); (try have hs1w2 : w.heap.size + 1 < w2.heap.size := by omega); (try have hs2w2 : w.heap.size + 1 + 1 < w2.heap.size := by omega); (try have hs3w2 : w.heap.size + 1 + 1 + 1 < w2.heap.size := by omega); (try have hs_w1_w2 : w1.heap.size < w2.heap.size := by omega); (try have hs_w1p_w2 : w1.heap.size + 1 < w2.heap.size := by omega); (try have hs_w2_w2 : w2.heap.size < w2.heap.size := by omega); (try have hs_w2p_w2 : w2.heap.size + 1 < w2.heap.size := by omega); (try have hs_w3_w2 : w3.heap.size < w2.heap.size := by omega); (try have hs_w3p_w2 : w3.heap.size + 1 < w2.heap.size := by omega); (try have hs_w4_w2 : w4.heap.size < w2.heap.size := by omega); (try have hs_w4p_w2 : w4.heap.size + 1 < w2.heap.size := by omega); (try have hs_w5_w2 : w5.heap.size < w2.heap.size := by omega); (try have hs_w5p_w2 : w5.heap.size + 1 < w2.heap.size := by omega); (try have hs_w6_w2 : w6.heap.size < w2.heap.size := by omega); (try have hs_w6p_w2 : w6.heap.size + 1 < w2.heap.size := by omega))
      | (go_at_call 18; refine (rsvalid_any _ _ _ _ _ _ _ _ _).mono ?_; rintro e w3 ⟨rfl, hbw3⟩; obtain ⟨hcw3, hfw3⟩ := bcell hbw3; have hzw3 := hbw3.size; (try simp at hzw3); (try have hs0w3 : w.heap.size < w3.heap.size := by omega); (try have hs1w3 : w.heap.size + 1 < w3.heap.size := by omega); (try have hs2w3 : w.heap.size + 1 + 1 < w3.heap.size := by omega); (try have hs3w3 : w.heap.size + 1 + 1 + 1 < w3.heap.size := by omega); (try have hs_w1_w3 : w1.heap.size < w3.heap.size := by omega); (try have hs_w1p_w3 : w1.heap.size + 1 < w3.heap.size := by omega); (try have hs_w2_w3 : w2.heap.size < w3.heap.size := by omega); (try have hs_w2p_w3 : w2.heap.size + 1 < w3.heap.size := by omega); (try have hs_w3_w3 : w3.heap.size < w3.heap.size := by omega); (try have hs_w3p_w3 : w3.heap.size + 1 < w3.heap.size := by omega); (try have hs_w4_w3 : w4.heap.size < w3.heap.size := by omega); (try have hs_w4p_w3 : w4.heap.size + 1 < w3.heap.size := by omega); (try have hs_w5_w3 : w5.heap.size < w3.heap.size := by omega); (try have hs_w5p_w3 : w5.heap.size + 1 < w3.heap.size := by omega); (try have hs_w6_w3 : w6.heap.size < w3.heap.size := by omega); (try have hs_w6p_w3 : w6.heap.size + 1 < w3.heap.size := by omega)))
    go_ret
    refine ⟨rfl, ?_⟩
    repeat' (first | (with_reducible refine Below.setCell ?_ ?_ _) | (with_reducible refine Below.alloc ?_ ?_ _) | (with_reducible refine Below.drew ?_) | (with_reducible exact Below.refl _ _) | (with_reducible assumption) | (with_reducible refine Below.trans ?_ (Below.mono (by assumption) ?_)) | omega | (simp <;> omega))
  · have hv' : svld T M m th la pe no te = false := by simpa using hv
    clear h hv
    go_enter Try.func6, Try.ntmps6
    go_wp2_with (first
      | (go_at_call 9; refine (awake_any _).mono ?_; rintro e w1 ⟨rfl, hbw1⟩; obtain ⟨hcw1, hfw1⟩ := bcell hbw1; have hzw1 := hbw1.size; (try simp at hzw1); (try have hs0w1 : w.heap.size < w1.heap.size := by omega); (try have hs1w1 : w.heap.size + 1 < w1.heap.size := by omega); (try have hs2w1 : w.heap.size + 1 + 1 < w1.heap.size := by omega); (try have hs3w1 : w.heap.size + 1 + 1 + 1 < w1.heap.size := by omega); (try have hs_w1_w1 : w1.heap.size < w1.heap.size := by omega); (try have hs_w1p_w1 : w1.heap.size + 1 < w1.heap.size := by omega); (try have hs_w2_w1 : w2.heap.size < w1.heap.size := by omega); (try have hs_w2p_w1 : w2.heap.size + 1 < w1.heap.size := by omega); (try have hs_w3_w1 : w3.heap.size < w1.heap.size := by omega); (try have hs_w3p_w1 : w3.heap.size + 1 < w1.heap.size := by omega); (try have hs_w4_w1 : w4.heap.size < w1.heap.size := by omega); (try have hs_w4p_w1 : w4.heap.size + 1 < w1.heap.size := by omega); (try have hs_w5_w1 : w5.heap.size < w1.heap.size := by omega); (try have hs_w5p_w1 : w5.heap.size + 1 < w1.heap.size := by omega); (try have hs_w6_w1 : w6.heap.size < w1.heap.size := by omega); (try have hs_w6p_w1 : w6.heap.size + 1 < w1.heap.size := by omega))
      | (go_at_call 21; refine (window_no _ _ _ _ _ _ _ _ _ HH.out).mono ?_; rintro e w2 ⟨rfl, hbw2⟩; obtain ⟨hcw2, hfw2⟩ := bcell hbw2; have hzw2 := hbw2.size; (try simp at hzw2); (try have hs0w2 : w.heap.size < w2.heap.size := by omega); (try have hs1w2 : w.heap.size + 1 < w2.heap.size := by omega); (try have hs2w2 : w.heap.size + 1 + 1 < w2.heap.size := by omega); (try have hs3w2 : w.heap.size + 1 + 1 + 1 < w2.heap.size := by omega); (try have hs_w1_w2 : w1.heap.size < w2.heap.size := by omega); (try have hs_w1p_w2 : w1.heap.size + 1 < w2.heap.size := by omega); (try have hs_w2_w2 : w2.heap.size < w2.heap.size := by omega); (try have hs_w2p_w2 : w2.heap.size + 1 < w2.heap.size := by omega); (try have hs_w3_w2 : w3.heap.size < w2.heap.size := by omega); (try have hs_w3p_w2 : w3.heap.size + 1 < w2.heap.size := by omega); (try have hs_w4_w2 : w4.heap.size < w2.heap.size := by omega); (try have hs_w4p_w2 : w4.heap.size + 1 < w2.heap.size := by omega); (try have hs_w5_w2 : w5.heap.size < w2.heap.size := by omega); (try have hs_w5p_w2 : w5.heap.size + 1 < w2.heap.size := by omega); (try have hs_w6_w2 : w6.heap.size < w2.heap.size := by omega); (try have hs_w6p_w2 : w6.heap.size + 1 < w2.heap.size := by omega))
      | (go_at_call 18; refine (rsvalid_any _ _ _ _ _ _ _ _ _).mono ?_; rintro e w3 ⟨rfl, hbw3⟩; obtain ⟨hcw3, hfw3⟩ := bcell hbw3; have hzw3 := hbw3.size; (try simp at hzw3); (try have hs0w3 : w.heap.size < w3.heap.size := by omega); (try have hs1w3 : w.heap.size + 1 < w3.heap.size := by omega); (try have hs2w3 : w.heap.size + 1 + 1 < w3.heap.size := by omega); (try have hs3w3 : w.heap.size + 1 + 1 + 1 < w3.heap.size := by omega); (try have hs_w1_w3 : w1.heap.size < w3.heap.size := by omega); (try have hs_w1p_w3 : w1.heap.size + 1 < w3.heap.size := by omega); (try have hs_w2_w3 : w2.heap.size < w3.heap.size := by omega); (try have hs_w2p_w3 : w2.heap.size + 1 < w3.heap.size := by omega); (try have hs_w3_w3 : w3.heap.size < w3.heap.size := by omega); (try have hs_w3p_w3 : w3.heap.size + 1 < w3.heap.size := by omega); (try have hs_w4_w3 : w4.heap.size < w3.heap.size := by omega); (try have hs_w4p_w3 : w4.heap.size + 1 < w3.heap.size := by omega); (try have hs_w5_w3 : w5.heap.size < w3.heap.size := by omega); (try have hs_w5p_w3 : w5.heap.size + 1 < w3.heap.size := by omega); (try have hs_w6_w3 : w6.heap.size < w3.heap.size := by omega); (try have hs_w6p_w3 : w6.heap.size + 1 < w3.heap.size := by omega)))
    go_ret
    refine ⟨rfl, ?_⟩
    repeat' (first | (with_reducible refine Below.setCell ?_ ?_ _) | (with_reducible refine Below.alloc ?_ ?_ _) | (with_reducible refine Below.drew ?_) | (with_reducible exact Below.refl _ _) | (with_reducible assumption) | (with_reducible refine Below.trans ?_ (Below.mono (by assumption) ?_)) | omega | (simp <;> omega))

/-- The five times. -/
def winL (lo hi la af : Int) : List Int := [lo - 1, lo, hi, hi + 1, la + 1 + af]

set_option maxRecDepth 10000 in
set_option maxHeartbeats 2000000 in
theorem windows_last (T M th la pe no te af : Int) (w : World) (hv : svld T M 2 th la pe no te = true) (a0 : 0 ≤ af) (a1 : af ≤ 4294967295) (hth : th + 1 = T - M) : Calls Try.prog 6 #[wv T M, sv 2 th la pe no te, .int .u32 af] w fun e w' => e = .returned (.bool true) ∧ Below w.heap.size w w' := by
  obtain ⟨hw, hc⟩ := svld_cases hv
  obtain ⟨b1, b2, b3, b4, _⟩ := wvld_bd hw
  have hb : 0 ≤ la ∧ la ≤ 1099511627776 ∧ 1 ≤ no ∧ no ≤ 1099511627776 ∧ 0 ≤ th ∧ th < T - M := by omega
  obtain ⟨l0, l1, n0, n1, q0, q1⟩ := hb
  obtain ⟨x0, x1⟩ := expc_bd (th := th) hw (by omega) n1
  have x2 : 1 ≤ expc T M th no := by
    unfold expc
    split
    · have : 0 ≤ M * no := Int.mul_nonneg (by omega) (by omega)
      rw [Int.add_mul]
      omega
    · exact n0
  have HV := Lib.hid hv
  have HW := Lib.hid hw
  obtain ⟨lo, hlo⟩ : ∃ lo, lo = winLow T M th la no := ⟨_, rfl⟩
  obtain ⟨hi, hhi⟩ : ∃ hi, hi = winHigh T M th la no := ⟨_, rfl⟩
  have hin : ∀ t, lo ≤ t → t ≤ hi → stepS T M 2 th la no te t = ⟨2, 0, t, t - la, nextN T M th (t - la), 0⟩ := fun t h1 h2 => by
    rw [lock_in (hlo ▸ h1) (hhi ▸ h2)]
    unfold nextT
    rw [if_pos hth]
  have hout : ∀ t, ¬ (lo ≤ t ∧ t ≤ hi) → stepS T M 2 th la no te t = ⟨0, 0, 0, 0, 0, 0⟩ := fun t h => lock_out (by rw [← hlo, ← hhi]; exact h)
  have HIN := Lib.hid hin
  have HOUT := Lib.hid hout
  have hwin : ∀ w1 : World, Calls Try.prog 21 #[wv T M, sv 2 th la pe no te] w1 fun e w' => e = .returned (.tuple #[.int .i64 lo, .int .i64 hi]) ∧ Below w1.heap.size w1 w' := fun w1 => by
    rw [hlo, hhi]
    exact window_ok T M th la pe no te w1 hv
  have HWIN := Lib.hid hwin
  have y0 : la < lo := by rw [hlo]; unfold winLow; omega
  have y1 : lo ≤ hi := by rw [hlo, hhi]; unfold winLow winHigh; omega
  have y2 : hi ≤ 8796093022208 := by rw [hhi]; unfold winHigh; omega
  clear hv hw hc hin hout hwin hlo hhi x0 x1 x2
  go_enter Try.func6, Try.ntmps6
  go_wp2_with (first
    | (go_at_call 9; refine (awake_any _).mono ?_; rintro e w1 ⟨rfl, hbw1⟩; obtain ⟨hcw1, hfw1⟩ := bcell hbw1; have hzw1 := hbw1.size; (try simp at hzw1); (try have hs0w1 : w.heap.size < w1.heap.size := by omega); (try have hs1w1 : w.heap.size + 1 < w1.heap.size := by omega); (try have hs2w1 : w.heap.size + 1 + 1 < w1.heap.size := by omega); (try have hs3w1 : w.heap.size + 1 + 1 + 1 < w1.heap.size := by omega); (try have hs_w1_w1 : w1.heap.size < w1.heap.size := by omega); (try have hs_w1p_w1 : w1.heap.size + 1 < w1.heap.size := by omega); (try have hs_w2_w1 : w2.heap.size < w1.heap.size := by omega); (try have hs_w2p_w1 : w2.heap.size + 1 < w1.heap.size := by omega); (try have hs_w3_w1 : w3.heap.size < w1.heap.size := by omega); (try have hs_w3p_w1 : w3.heap.size + 1 < w1.heap.size := by omega); (try have hs_w4_w1 : w4.heap.size < w1.heap.size := by omega); (try have hs_w4p_w1 : w4.heap.size + 1 < w1.heap.size := by omega); (try have hs_w5_w1 : w5.heap.size < w1.heap.size := by omega); (try have hs_w5p_w1 : w5.heap.size + 1 < w1.heap.size := by omega); (try have hs_w6_w1 : w6.heap.size < w1.heap.size := by omega); (try have hs_w6p_w1 : w6.heap.size + 1 < w1.heap.size := by omega))
    | (go_at_call 21; refine (HWIN.out _).mono ?_; rintro e w2 ⟨rfl, hbw2⟩; obtain ⟨hcw2, hfw2⟩ := bcell hbw2; have hzw2 := hbw2.size; (try simp at hzw2); (try have hs0w2 : w.heap.size < w2.heap.size := by omega); (try have hs1w2 : w.heap.size + 1 < w2.heap.size := by omega); (try have hs2w2 : w.heap.size + 1 + 1 < w2.heap.size := by omega); (try have hs3w2 : w.heap.size + 1 + 1 + 1 < w2.heap.size := by omega); (try have hs_w1_w2 : w1.heap.size < w2.heap.size := by omega); (try have hs_w1p_w2 : w1.heap.size + 1 < w2.heap.size := by omega); (try have hs_w2_w2 : w2.heap.size < w2.heap.size := by omega); (try have hs_w2p_w2 : w2.heap.size + 1 < w2.heap.size := by omega); (try have hs_w3_w2 : w3.heap.size < w2.heap.size := by omega); (try have hs_w3p_w2 : w3.heap.size + 1 < w2.heap.size := by omega); (try have hs_w4_w2 : w4.heap.size < w2.heap.size := by omega); (try have hs_w4p_w2 : w4.heap.size + 1 < w2.heap.size := by omega); (try have hs_w5_w2 : w5.heap.size < w2.heap.size := by omega); (try have hs_w5p_w2 : w5.heap.size + 1 < w2.heap.size := by omega); (try have hs_w6_w2 : w6.heap.size < w2.heap.size := by omega); (try have hs_w6p_w2 : w6.heap.size + 1 < w2.heap.size := by omega))
    | (go_at_call 18; refine (rsvalid_any _ _ _ _ _ _ _ _ _).mono ?_; rintro e w3 ⟨rfl, hbw3⟩; obtain ⟨hcw3, hfw3⟩ := bcell hbw3; have hzw3 := hbw3.size; (try simp at hzw3); (try have hs0w3 : w.heap.size < w3.heap.size := by omega); (try have hs1w3 : w.heap.size + 1 < w3.heap.size := by omega); (try have hs2w3 : w.heap.size + 1 + 1 < w3.heap.size := by omega); (try have hs3w3 : w.heap.size + 1 + 1 + 1 < w3.heap.size := by omega); (try have hs_w1_w3 : w1.heap.size < w3.heap.size := by omega); (try have hs_w1p_w3 : w1.heap.size + 1 < w3.heap.size := by omega); (try have hs_w2_w3 : w2.heap.size < w3.heap.size := by omega); (try have hs_w2p_w3 : w2.heap.size + 1 < w3.heap.size := by omega); (try have hs_w3_w3 : w3.heap.size < w3.heap.size := by omega); (try have hs_w3p_w3 : w3.heap.size + 1 < w3.heap.size := by omega); (try have hs_w4_w3 : w4.heap.size < w3.heap.size := by omega); (try have hs_w4p_w3 : w4.heap.size + 1 < w3.heap.size := by omega); (try have hs_w5_w3 : w5.heap.size < w3.heap.size := by omega); (try have hs_w5p_w3 : w5.heap.size + 1 < w3.heap.size := by omega); (try have hs_w6_w3 : w6.heap.size < w3.heap.size := by omega); (try have hs_w6p_w3 : w6.heap.size + 1 < w3.heap.size := by omega))
    | (go_at_call 14; refine (wteeth_ok _ _ _ HW.out).mono ?_; rintro e w4 ⟨rfl, hbw4⟩; obtain ⟨hcw4, hfw4⟩ := bcell hbw4; have hzw4 := hbw4.size; (try simp at hzw4); (try have hs0w4 : w.heap.size < w4.heap.size := by omega); (try have hs1w4 : w.heap.size + 1 < w4.heap.size := by omega); (try have hs2w4 : w.heap.size + 1 + 1 < w4.heap.size := by omega); (try have hs3w4 : w.heap.size + 1 + 1 + 1 < w4.heap.size := by omega); (try have hs_w1_w4 : w1.heap.size < w4.heap.size := by omega); (try have hs_w1p_w4 : w1.heap.size + 1 < w4.heap.size := by omega); (try have hs_w2_w4 : w2.heap.size < w4.heap.size := by omega); (try have hs_w2p_w4 : w2.heap.size + 1 < w4.heap.size := by omega); (try have hs_w3_w4 : w3.heap.size < w4.heap.size := by omega); (try have hs_w3p_w4 : w3.heap.size + 1 < w4.heap.size := by omega); (try have hs_w4_w4 : w4.heap.size < w4.heap.size := by omega); (try have hs_w4p_w4 : w4.heap.size + 1 < w4.heap.size := by omega); (try have hs_w5_w4 : w5.heap.size < w4.heap.size := by omega); (try have hs_w5p_w4 : w5.heap.size + 1 < w4.heap.size := by omega); (try have hs_w6_w4 : w6.heap.size < w4.heap.size := by omega); (try have hs_w6p_w4 : w6.heap.size + 1 < w4.heap.size := by omega)))
  refine wp_world ?_
  intro w5 hbw5
  obtain ⟨hcw5, hfw5⟩ := bcell hbw5
  have hzw5 := hbw5.size
  (try simp at hzw5)
  (try have hs0w5 : w.heap.size < w5.heap.size := by omega); (try have hs1w5 : w.heap.size + 1 < w5.heap.size := by omega); (try have hs2w5 : w.heap.size + 1 + 1 < w5.heap.size := by omega); (try have hs3w5 : w.heap.size + 1 + 1 + 1 < w5.heap.size := by omega); (try have hs_w1_w5 : w1.heap.size < w5.heap.size := by omega); (try have hs_w1p_w5 : w1.heap.size + 1 < w5.heap.size := by omega); (try have hs_w2_w5 : w2.heap.size < w5.heap.size := by omega); (try have hs_w2p_w5 : w2.heap.size + 1 < w5.heap.size := by omega); (try have hs_w3_w5 : w3.heap.size < w5.heap.size := by omega); (try have hs_w3p_w5 : w3.heap.size + 1 < w5.heap.size := by omega); (try have hs_w4_w5 : w4.heap.size < w5.heap.size := by omega); (try have hs_w4p_w5 : w4.heap.size + 1 < w5.heap.size := by omega); (try have hs_w5_w5 : w5.heap.size < w5.heap.size := by omega); (try have hs_w5p_w5 : w5.heap.size + 1 < w5.heap.size := by omega); (try have hs_w6_w5 : w6.heap.size < w5.heap.size := by omega); (try have hs_w6p_w5 : w6.heap.size + 1 < w5.heap.size := by omega)
  have hB0 : Below w.heap.size w w5 := by
    repeat' (first | (with_reducible refine Below.setCell ?_ ?_ _) | (with_reducible refine Below.alloc ?_ ?_ _) | (with_reducible refine Below.drew ?_) | (with_reducible exact Below.refl _ _) | (with_reducible assumption) | (with_reducible refine Below.trans ?_ (Below.mono (by assumption) ?_)) | omega | (simp <;> omega))
  have kT : w5.cell? ⟨w.heap.size, 0, none⟩ = some (.int .i64 T) := (hcw5 (w.heap.size) (0) (by first | omega | (simp <;> omega))).trans (by go_simp)
  have kM : w5.cell? ⟨w.heap.size, 1, none⟩ = some (.int .i64 M) := (hcw5 (w.heap.size) (1) (by first | omega | (simp <;> omega))).trans (by go_simp)
  have kS0 : w5.cell? ⟨w.heap.size + 1, 0, none⟩ = some (.int .i64 2) := (hcw5 (w.heap.size + 1) (0) (by first | omega | (simp <;> omega))).trans (by go_simp)
  have kS1 : w5.cell? ⟨w.heap.size + 1, 1, none⟩ = some (.int .i64 th) := (hcw5 (w.heap.size + 1) (1) (by first | omega | (simp <;> omega))).trans (by go_simp)
  have kS2 : w5.cell? ⟨w.heap.size + 1, 2, none⟩ = some (.int .i64 la) := (hcw5 (w.heap.size + 1) (2) (by first | omega | (simp <;> omega))).trans (by go_simp)
  have kS3 : w5.cell? ⟨w.heap.size + 1, 3, none⟩ = some (.int .i64 pe) := (hcw5 (w.heap.size + 1) (3) (by first | omega | (simp <;> omega))).trans (by go_simp)
  have kS4 : w5.cell? ⟨w.heap.size + 1, 4, none⟩ = some (.int .i64 no) := (hcw5 (w.heap.size + 1) (4) (by first | omega | (simp <;> omega))).trans (by go_simp)
  have kS5 : w5.cell? ⟨w.heap.size + 1, 5, none⟩ = some (.int .i64 te) := (hcw5 (w.heap.size + 1) (5) (by first | omega | (simp <;> omega))).trans (by go_simp)
  have kL0 : w5.cell? ⟨w4.heap.size, 0, none⟩ = some (.int .i64 (lo - 1)) := (hcw5 (w4.heap.size) (0) (by first | omega | (simp <;> omega))).trans (by go_simp)
  have kL1 : w5.cell? ⟨w4.heap.size, 1, none⟩ = some (.int .i64 lo) := (hcw5 (w4.heap.size) (1) (by first | omega | (simp <;> omega))).trans (by go_simp)
  have kL2 : w5.cell? ⟨w4.heap.size, 2, none⟩ = some (.int .i64 hi) := (hcw5 (w4.heap.size) (2) (by first | omega | (simp <;> omega))).trans (by go_simp)
  have kL3 : w5.cell? ⟨w4.heap.size, 3, none⟩ = some (.int .i64 (hi + 1)) := (hcw5 (w4.heap.size) (3) (by first | omega | (simp <;> omega))).trans (by go_simp)
  have kL4 : w5.cell? ⟨w4.heap.size, 4, none⟩ = some (.int .i64 (la + 1 + af)) := (hcw5 (w4.heap.size) (4) (by first | omega | (simp <;> omega))).trans (by go_simp)
  have hL : ∀ k : Nat, k < 5 → w5.cell? ⟨w4.heap.size, k, none⟩ = some (.int .i64 ((winL lo hi la af).getD k 0)) ∧ 0 ≤ (winL lo hi la af).getD k 0 ∧ (winL lo hi la af).getD k 0 ≤ 17592186044416 := by
    intro k hk
    rcases (by omega : k = 0 ∨ k = 1 ∨ k = 2 ∨ k = 3 ∨ k = 4) with rfl | rfl | rfl | rfl | rfl
    · exact ⟨kL0, by show 0 ≤ lo - 1; omega, by show lo - 1 ≤ _; omega⟩
    · exact ⟨kL1, by show 0 ≤ lo; omega, by show lo ≤ _; omega⟩
    · exact ⟨kL2, by show 0 ≤ hi; omega, by show hi ≤ _; omega⟩
    · exact ⟨kL3, by show 0 ≤ hi + 1; omega, by show hi + 1 ≤ _; omega⟩
    · exact ⟨kL4, by show 0 ≤ la + 1 + af; omega, by show la + 1 + af ≤ _; omega⟩
  have HLL := Lib.hid hL
  have hs4 : w4.heap.size < w5.heap.size := by omega
  obtain ⟨X, hX⟩ : ∃ X, X = w4.heap.size := ⟨_, rfl⟩
  rw [← hX] at hs4 HLL ⊢
  clear hX kL0 kL1 kL2 kL3 kL4 hL hcw1 hcw2 hcw3 hcw4 hcw5 hfw1 hfw2 hfw3 hfw4 hfw5 hbw1 hbw2 hbw3 hbw4 hbw5
  clear hs0w1 hs1w1 hs0w2 hs1w2 hs0w3 hs1w3 hs0w4 hs1w4 hzw1 hzw2 hzw3 hzw4 hzw5
  go_loopw [68] (fun i wr => ∃ k : Nat, k ≤ 5 ∧ i = .int .i64 k ∧ Below w5.heap.size w5 wr) (fun i _ => 5 - (intOf i).toNat)
  case atStart => exact ⟨0, Nat.zero_le _, rfl, Below.refl _ _⟩
  case round =>
    obtain ⟨k, hk, rfl, hb⟩ := hrel
    have hbz := hb.size
    by_cases hlt : k < 5
    · obtain ⟨ct, t0, t1⟩ := HLL.out k hlt
      obtain ⟨t, ht⟩ : ∃ t, t = (winL lo hi la af).getD k 0 := ⟨_, rfl⟩
      rw [← ht] at ct t0 t1
      have dt := (hb.cell (p := ⟨X, k, none⟩) hs4).trans ct
      have dT := (hb.cell (p := ⟨w.heap.size, 0, none⟩) hs0w5).trans kT
      have dM := (hb.cell (p := ⟨w.heap.size, 1, none⟩) hs0w5).trans kM
      have d0 := (hb.cell (p := ⟨w.heap.size + 1, 0, none⟩) hs1w5).trans kS0
      have d1 := (hb.cell (p := ⟨w.heap.size + 1, 1, none⟩) hs1w5).trans kS1
      have d2 := (hb.cell (p := ⟨w.heap.size + 1, 2, none⟩) hs1w5).trans kS2
      have d3 := (hb.cell (p := ⟨w.heap.size + 1, 3, none⟩) hs1w5).trans kS3
      have d4 := (hb.cell (p := ⟨w.heap.size + 1, 4, none⟩) hs1w5).trans kS4
      have d5 := (hb.cell (p := ⟨w.heap.size + 1, 5, none⟩) hs1w5).trans kS5
      have j0 : (0 : Int) ≤ (k : Int) := by omega
      have j1 : (k : Int) < 5 := by omega
      clear ht ct
      by_cases g1 : t ≤ la
      · go_wp2
        go_round
        case rel => exact ⟨k + 1, by omega, by go_num, hb⟩
        case measure => simp [intOf]; omega
      · by_cases g2 : 1099511627776 < t
        · go_wp2
          go_round
          case rel => exact ⟨k + 1, by omega, by go_num, hb⟩
          case measure => simp [intOf]; omega
        · have HT := Lib.hid (show isTime t = true from decide_eq_true ⟨t0, by omega⟩)
          have HLT := Lib.hid (show (2 : Int) ≠ 0 → la < t from fun _ => by omega)
          by_cases g3 : lo ≤ t
          · by_cases g4 : t ≤ hi
            · have HS := Lib.hid (HIN.out t g3 g4)
              go_wp2_with (go_at_call 16; refine (stepP_ok HS.out _ HV.out HT.out HLT.out).mono ?_; rintro e w6 ⟨rfl, hbw6⟩; obtain ⟨hcw6, hfw6⟩ := bcell hbw6; have hzw6 := hbw6.size; (try simp at hzw6); (try have hs0w6 : w.heap.size < w6.heap.size := by omega); (try have hs1w6 : w.heap.size + 1 < w6.heap.size := by omega); (try have hs2w6 : w.heap.size + 1 + 1 < w6.heap.size := by omega); (try have hs3w6 : w.heap.size + 1 + 1 + 1 < w6.heap.size := by omega); (try have hs_w1_w6 : w1.heap.size < w6.heap.size := by omega); (try have hs_w1p_w6 : w1.heap.size + 1 < w6.heap.size := by omega); (try have hs_w2_w6 : w2.heap.size < w6.heap.size := by omega); (try have hs_w2p_w6 : w2.heap.size + 1 < w6.heap.size := by omega); (try have hs_w3_w6 : w3.heap.size < w6.heap.size := by omega); (try have hs_w3p_w6 : w3.heap.size + 1 < w6.heap.size := by omega); (try have hs_w4_w6 : w4.heap.size < w6.heap.size := by omega); (try have hs_w4p_w6 : w4.heap.size + 1 < w6.heap.size := by omega); (try have hs_w5_w6 : w5.heap.size < w6.heap.size := by omega); (try have hs_w5p_w6 : w5.heap.size + 1 < w6.heap.size := by omega); (try have hs_w6_w6 : w6.heap.size < w6.heap.size := by omega); (try have hs_w6p_w6 : w6.heap.size + 1 < w6.heap.size := by omega))
              go_round
              case rel => exact ⟨k + 1, by omega, by go_num, (by
                  repeat' (first | (with_reducible refine Below.setCell ?_ ?_ _) | (with_reducible refine Below.alloc ?_ ?_ _) | (with_reducible refine Below.drew ?_) | (with_reducible exact Below.refl _ _) | (with_reducible assumption) | (with_reducible refine Below.trans ?_ (Below.mono (by assumption) ?_)) | omega | (simp <;> omega)))⟩
              case measure => simp [intOf]; omega
            · have HS := Lib.hid (HOUT.out t (fun h => g4 h.2))
              go_wp2_with (go_at_call 16; refine (stepP_ok HS.out _ HV.out HT.out HLT.out).mono ?_; rintro e w6 ⟨rfl, hbw6⟩; obtain ⟨hcw6, hfw6⟩ := bcell hbw6; have hzw6 := hbw6.size; (try simp at hzw6); (try have hs0w6 : w.heap.size < w6.heap.size := by omega); (try have hs1w6 : w.heap.size + 1 < w6.heap.size := by omega); (try have hs2w6 : w.heap.size + 1 + 1 < w6.heap.size := by omega); (try have hs3w6 : w.heap.size + 1 + 1 + 1 < w6.heap.size := by omega); (try have hs_w1_w6 : w1.heap.size < w6.heap.size := by omega); (try have hs_w1p_w6 : w1.heap.size + 1 < w6.heap.size := by omega); (try have hs_w2_w6 : w2.heap.size < w6.heap.size := by omega); (try have hs_w2p_w6 : w2.heap.size + 1 < w6.heap.size := by omega); (try have hs_w3_w6 : w3.heap.size < w6.heap.size := by omega); (try have hs_w3p_w6 : w3.heap.size + 1 < w6.heap.size := by omega); (try have hs_w4_w6 : w4.heap.size < w6.heap.size := by omega); (try have hs_w4p_w6 : w4.heap.size + 1 < w6.heap.size := by omega); (try have hs_w5_w6 : w5.heap.size < w6.heap.size := by omega); (try have hs_w5p_w6 : w5.heap.size + 1 < w6.heap.size := by omega); (try have hs_w6_w6 : w6.heap.size < w6.heap.size := by omega); (try have hs_w6p_w6 : w6.heap.size + 1 < w6.heap.size := by omega))
              go_round
              case rel => exact ⟨k + 1, by omega, by go_num, (by
                  repeat' (first | (with_reducible refine Below.setCell ?_ ?_ _) | (with_reducible refine Below.alloc ?_ ?_ _) | (with_reducible refine Below.drew ?_) | (with_reducible exact Below.refl _ _) | (with_reducible assumption) | (with_reducible refine Below.trans ?_ (Below.mono (by assumption) ?_)) | omega | (simp <;> omega)))⟩
              case measure => simp [intOf]; omega
          · have HS := Lib.hid (HOUT.out t (fun h => g3 h.1))
            go_wp2_with (go_at_call 16; refine (stepP_ok HS.out _ HV.out HT.out HLT.out).mono ?_; rintro e w6 ⟨rfl, hbw6⟩; obtain ⟨hcw6, hfw6⟩ := bcell hbw6; have hzw6 := hbw6.size; (try simp at hzw6); (try have hs0w6 : w.heap.size < w6.heap.size := by omega); (try have hs1w6 : w.heap.size + 1 < w6.heap.size := by omega); (try have hs2w6 : w.heap.size + 1 + 1 < w6.heap.size := by omega); (try have hs3w6 : w.heap.size + 1 + 1 + 1 < w6.heap.size := by omega); (try have hs_w1_w6 : w1.heap.size < w6.heap.size := by omega); (try have hs_w1p_w6 : w1.heap.size + 1 < w6.heap.size := by omega); (try have hs_w2_w6 : w2.heap.size < w6.heap.size := by omega); (try have hs_w2p_w6 : w2.heap.size + 1 < w6.heap.size := by omega); (try have hs_w3_w6 : w3.heap.size < w6.heap.size := by omega); (try have hs_w3p_w6 : w3.heap.size + 1 < w6.heap.size := by omega); (try have hs_w4_w6 : w4.heap.size < w6.heap.size := by omega); (try have hs_w4p_w6 : w4.heap.size + 1 < w6.heap.size := by omega); (try have hs_w5_w6 : w5.heap.size < w6.heap.size := by omega); (try have hs_w5p_w6 : w5.heap.size + 1 < w6.heap.size := by omega); (try have hs_w6_w6 : w6.heap.size < w6.heap.size := by omega); (try have hs_w6p_w6 : w6.heap.size + 1 < w6.heap.size := by omega))
            go_round
            case rel => exact ⟨k + 1, by omega, by go_num, (by
                repeat' (first | (with_reducible refine Below.setCell ?_ ?_ _) | (with_reducible refine Below.alloc ?_ ?_ _) | (with_reducible refine Below.drew ?_) | (with_reducible exact Below.refl _ _) | (with_reducible assumption) | (with_reducible refine Below.trans ?_ (Below.mono (by assumption) ?_)) | omega | (simp <;> omega)))⟩
            case measure => simp [intOf]; omega
    · obtain rfl : k = 5 := by omega
      go_wp2
      go_ret
      refine ⟨rfl, ?_⟩
      exact hB0.trans (hb.mono hB0.size)

set_option maxRecDepth 10000 in
set_option maxHeartbeats 2000000 in
theorem windows_ok (T M th la pe no te af : Int) (w : World) (hv : svld T M 2 th la pe no te = true) (a0 : 0 ≤ af) (a1 : af ≤ 4294967295) (hth : ¬ th + 1 = T - M) : Calls Try.prog 6 #[wv T M, sv 2 th la pe no te, .int .u32 af] w fun e w' => e = .returned (.bool true) ∧ Below w.heap.size w w' := by
  obtain ⟨hw, hc⟩ := svld_cases hv
  obtain ⟨b1, b2, b3, b4, _⟩ := wvld_bd hw
  have hb : 0 ≤ la ∧ la ≤ 1099511627776 ∧ 1 ≤ no ∧ no ≤ 1099511627776 ∧ 0 ≤ th ∧ th < T - M := by omega
  obtain ⟨l0, l1, n0, n1, q0, q1⟩ := hb
  obtain ⟨x0, x1⟩ := expc_bd (th := th) hw (by omega) n1
  have x2 : 1 ≤ expc T M th no := by
    unfold expc
    split
    · have : 0 ≤ M * no := Int.mul_nonneg (by omega) (by omega)
      rw [Int.add_mul]
      omega
    · exact n0
  have HV := Lib.hid hv
  have HW := Lib.hid hw
  obtain ⟨lo, hlo⟩ : ∃ lo, lo = winLow T M th la no := ⟨_, rfl⟩
  obtain ⟨hi, hhi⟩ : ∃ hi, hi = winHigh T M th la no := ⟨_, rfl⟩
  have hin : ∀ t, lo ≤ t → t ≤ hi → stepS T M 2 th la no te t = ⟨2, th + 1, t, t - la, nextN T M th (t - la), 0⟩ := fun t h1 h2 => by
    rw [lock_in (hlo ▸ h1) (hhi ▸ h2)]
    unfold nextT
    rw [if_neg hth]
  have hout : ∀ t, ¬ (lo ≤ t ∧ t ≤ hi) → stepS T M 2 th la no te t = ⟨0, 0, 0, 0, 0, 0⟩ := fun t h => lock_out (by rw [← hlo, ← hhi]; exact h)
  have HIN := Lib.hid hin
  have HOUT := Lib.hid hout
  have hwin : ∀ w1 : World, Calls Try.prog 21 #[wv T M, sv 2 th la pe no te] w1 fun e w' => e = .returned (.tuple #[.int .i64 lo, .int .i64 hi]) ∧ Below w1.heap.size w1 w' := fun w1 => by
    rw [hlo, hhi]
    exact window_ok T M th la pe no te w1 hv
  have HWIN := Lib.hid hwin
  have y0 : la < lo := by rw [hlo]; unfold winLow; omega
  have y1 : lo ≤ hi := by rw [hlo, hhi]; unfold winLow winHigh; omega
  have y2 : hi ≤ 8796093022208 := by rw [hhi]; unfold winHigh; omega
  clear hv hw hc hin hout hwin hlo hhi x0 x1 x2
  go_enter Try.func6, Try.ntmps6
  go_wp2_with (first
    | (go_at_call 9; refine (awake_any _).mono ?_; rintro e w1 ⟨rfl, hbw1⟩; obtain ⟨hcw1, hfw1⟩ := bcell hbw1; have hzw1 := hbw1.size; (try simp at hzw1); (try have hs0w1 : w.heap.size < w1.heap.size := by omega); (try have hs1w1 : w.heap.size + 1 < w1.heap.size := by omega); (try have hs2w1 : w.heap.size + 1 + 1 < w1.heap.size := by omega); (try have hs3w1 : w.heap.size + 1 + 1 + 1 < w1.heap.size := by omega); (try have hs_w1_w1 : w1.heap.size < w1.heap.size := by omega); (try have hs_w1p_w1 : w1.heap.size + 1 < w1.heap.size := by omega); (try have hs_w2_w1 : w2.heap.size < w1.heap.size := by omega); (try have hs_w2p_w1 : w2.heap.size + 1 < w1.heap.size := by omega); (try have hs_w3_w1 : w3.heap.size < w1.heap.size := by omega); (try have hs_w3p_w1 : w3.heap.size + 1 < w1.heap.size := by omega); (try have hs_w4_w1 : w4.heap.size < w1.heap.size := by omega); (try have hs_w4p_w1 : w4.heap.size + 1 < w1.heap.size := by omega); (try have hs_w5_w1 : w5.heap.size < w1.heap.size := by omega); (try have hs_w5p_w1 : w5.heap.size + 1 < w1.heap.size := by omega); (try have hs_w6_w1 : w6.heap.size < w1.heap.size := by omega); (try have hs_w6p_w1 : w6.heap.size + 1 < w1.heap.size := by omega))
    | (go_at_call 21; refine (HWIN.out _).mono ?_; rintro e w2 ⟨rfl, hbw2⟩; obtain ⟨hcw2, hfw2⟩ := bcell hbw2; have hzw2 := hbw2.size; (try simp at hzw2); (try have hs0w2 : w.heap.size < w2.heap.size := by omega); (try have hs1w2 : w.heap.size + 1 < w2.heap.size := by omega); (try have hs2w2 : w.heap.size + 1 + 1 < w2.heap.size := by omega); (try have hs3w2 : w.heap.size + 1 + 1 + 1 < w2.heap.size := by omega); (try have hs_w1_w2 : w1.heap.size < w2.heap.size := by omega); (try have hs_w1p_w2 : w1.heap.size + 1 < w2.heap.size := by omega); (try have hs_w2_w2 : w2.heap.size < w2.heap.size := by omega); (try have hs_w2p_w2 : w2.heap.size + 1 < w2.heap.size := by omega); (try have hs_w3_w2 : w3.heap.size < w2.heap.size := by omega); (try have hs_w3p_w2 : w3.heap.size + 1 < w2.heap.size := by omega); (try have hs_w4_w2 : w4.heap.size < w2.heap.size := by omega); (try have hs_w4p_w2 : w4.heap.size + 1 < w2.heap.size := by omega); (try have hs_w5_w2 : w5.heap.size < w2.heap.size := by omega); (try have hs_w5p_w2 : w5.heap.size + 1 < w2.heap.size := by omega); (try have hs_w6_w2 : w6.heap.size < w2.heap.size := by omega); (try have hs_w6p_w2 : w6.heap.size + 1 < w2.heap.size := by omega))
    | (go_at_call 18; refine (rsvalid_any _ _ _ _ _ _ _ _ _).mono ?_; rintro e w3 ⟨rfl, hbw3⟩; obtain ⟨hcw3, hfw3⟩ := bcell hbw3; have hzw3 := hbw3.size; (try simp at hzw3); (try have hs0w3 : w.heap.size < w3.heap.size := by omega); (try have hs1w3 : w.heap.size + 1 < w3.heap.size := by omega); (try have hs2w3 : w.heap.size + 1 + 1 < w3.heap.size := by omega); (try have hs3w3 : w.heap.size + 1 + 1 + 1 < w3.heap.size := by omega); (try have hs_w1_w3 : w1.heap.size < w3.heap.size := by omega); (try have hs_w1p_w3 : w1.heap.size + 1 < w3.heap.size := by omega); (try have hs_w2_w3 : w2.heap.size < w3.heap.size := by omega); (try have hs_w2p_w3 : w2.heap.size + 1 < w3.heap.size := by omega); (try have hs_w3_w3 : w3.heap.size < w3.heap.size := by omega); (try have hs_w3p_w3 : w3.heap.size + 1 < w3.heap.size := by omega); (try have hs_w4_w3 : w4.heap.size < w3.heap.size := by omega); (try have hs_w4p_w3 : w4.heap.size + 1 < w3.heap.size := by omega); (try have hs_w5_w3 : w5.heap.size < w3.heap.size := by omega); (try have hs_w5p_w3 : w5.heap.size + 1 < w3.heap.size := by omega); (try have hs_w6_w3 : w6.heap.size < w3.heap.size := by omega); (try have hs_w6p_w3 : w6.heap.size + 1 < w3.heap.size := by omega))
    | (go_at_call 14; refine (wteeth_ok _ _ _ HW.out).mono ?_; rintro e w4 ⟨rfl, hbw4⟩; obtain ⟨hcw4, hfw4⟩ := bcell hbw4; have hzw4 := hbw4.size; (try simp at hzw4); (try have hs0w4 : w.heap.size < w4.heap.size := by omega); (try have hs1w4 : w.heap.size + 1 < w4.heap.size := by omega); (try have hs2w4 : w.heap.size + 1 + 1 < w4.heap.size := by omega); (try have hs3w4 : w.heap.size + 1 + 1 + 1 < w4.heap.size := by omega); (try have hs_w1_w4 : w1.heap.size < w4.heap.size := by omega); (try have hs_w1p_w4 : w1.heap.size + 1 < w4.heap.size := by omega); (try have hs_w2_w4 : w2.heap.size < w4.heap.size := by omega); (try have hs_w2p_w4 : w2.heap.size + 1 < w4.heap.size := by omega); (try have hs_w3_w4 : w3.heap.size < w4.heap.size := by omega); (try have hs_w3p_w4 : w3.heap.size + 1 < w4.heap.size := by omega); (try have hs_w4_w4 : w4.heap.size < w4.heap.size := by omega); (try have hs_w4p_w4 : w4.heap.size + 1 < w4.heap.size := by omega); (try have hs_w5_w4 : w5.heap.size < w4.heap.size := by omega); (try have hs_w5p_w4 : w5.heap.size + 1 < w4.heap.size := by omega); (try have hs_w6_w4 : w6.heap.size < w4.heap.size := by omega); (try have hs_w6p_w4 : w6.heap.size + 1 < w4.heap.size := by omega)))
  refine wp_world ?_
  intro w5 hbw5
  obtain ⟨hcw5, hfw5⟩ := bcell hbw5
  have hzw5 := hbw5.size
  (try simp at hzw5)
  (try have hs0w5 : w.heap.size < w5.heap.size := by omega); (try have hs1w5 : w.heap.size + 1 < w5.heap.size := by omega); (try have hs2w5 : w.heap.size + 1 + 1 < w5.heap.size := by omega); (try have hs3w5 : w.heap.size + 1 + 1 + 1 < w5.heap.size := by omega); (try have hs_w1_w5 : w1.heap.size < w5.heap.size := by omega); (try have hs_w1p_w5 : w1.heap.size + 1 < w5.heap.size := by omega); (try have hs_w2_w5 : w2.heap.size < w5.heap.size := by omega); (try have hs_w2p_w5 : w2.heap.size + 1 < w5.heap.size := by omega); (try have hs_w3_w5 : w3.heap.size < w5.heap.size := by omega); (try have hs_w3p_w5 : w3.heap.size + 1 < w5.heap.size := by omega); (try have hs_w4_w5 : w4.heap.size < w5.heap.size := by omega); (try have hs_w4p_w5 : w4.heap.size + 1 < w5.heap.size := by omega); (try have hs_w5_w5 : w5.heap.size < w5.heap.size := by omega); (try have hs_w5p_w5 : w5.heap.size + 1 < w5.heap.size := by omega); (try have hs_w6_w5 : w6.heap.size < w5.heap.size := by omega); (try have hs_w6p_w5 : w6.heap.size + 1 < w5.heap.size := by omega)
  have hB0 : Below w.heap.size w w5 := by
    repeat' (first | (with_reducible refine Below.setCell ?_ ?_ _) | (with_reducible refine Below.alloc ?_ ?_ _) | (with_reducible refine Below.drew ?_) | (with_reducible exact Below.refl _ _) | (with_reducible assumption) | (with_reducible refine Below.trans ?_ (Below.mono (by assumption) ?_)) | omega | (simp <;> omega))
  have kT : w5.cell? ⟨w.heap.size, 0, none⟩ = some (.int .i64 T) := (hcw5 (w.heap.size) (0) (by first | omega | (simp <;> omega))).trans (by go_simp)
  have kM : w5.cell? ⟨w.heap.size, 1, none⟩ = some (.int .i64 M) := (hcw5 (w.heap.size) (1) (by first | omega | (simp <;> omega))).trans (by go_simp)
  have kS0 : w5.cell? ⟨w.heap.size + 1, 0, none⟩ = some (.int .i64 2) := (hcw5 (w.heap.size + 1) (0) (by first | omega | (simp <;> omega))).trans (by go_simp)
  have kS1 : w5.cell? ⟨w.heap.size + 1, 1, none⟩ = some (.int .i64 th) := (hcw5 (w.heap.size + 1) (1) (by first | omega | (simp <;> omega))).trans (by go_simp)
  have kS2 : w5.cell? ⟨w.heap.size + 1, 2, none⟩ = some (.int .i64 la) := (hcw5 (w.heap.size + 1) (2) (by first | omega | (simp <;> omega))).trans (by go_simp)
  have kS3 : w5.cell? ⟨w.heap.size + 1, 3, none⟩ = some (.int .i64 pe) := (hcw5 (w.heap.size + 1) (3) (by first | omega | (simp <;> omega))).trans (by go_simp)
  have kS4 : w5.cell? ⟨w.heap.size + 1, 4, none⟩ = some (.int .i64 no) := (hcw5 (w.heap.size + 1) (4) (by first | omega | (simp <;> omega))).trans (by go_simp)
  have kS5 : w5.cell? ⟨w.heap.size + 1, 5, none⟩ = some (.int .i64 te) := (hcw5 (w.heap.size + 1) (5) (by first | omega | (simp <;> omega))).trans (by go_simp)
  have kL0 : w5.cell? ⟨w4.heap.size, 0, none⟩ = some (.int .i64 (lo - 1)) := (hcw5 (w4.heap.size) (0) (by first | omega | (simp <;> omega))).trans (by go_simp)
  have kL1 : w5.cell? ⟨w4.heap.size, 1, none⟩ = some (.int .i64 lo) := (hcw5 (w4.heap.size) (1) (by first | omega | (simp <;> omega))).trans (by go_simp)
  have kL2 : w5.cell? ⟨w4.heap.size, 2, none⟩ = some (.int .i64 hi) := (hcw5 (w4.heap.size) (2) (by first | omega | (simp <;> omega))).trans (by go_simp)
  have kL3 : w5.cell? ⟨w4.heap.size, 3, none⟩ = some (.int .i64 (hi + 1)) := (hcw5 (w4.heap.size) (3) (by first | omega | (simp <;> omega))).trans (by go_simp)
  have kL4 : w5.cell? ⟨w4.heap.size, 4, none⟩ = some (.int .i64 (la + 1 + af)) := (hcw5 (w4.heap.size) (4) (by first | omega | (simp <;> omega))).trans (by go_simp)
  have hL : ∀ k : Nat, k < 5 → w5.cell? ⟨w4.heap.size, k, none⟩ = some (.int .i64 ((winL lo hi la af).getD k 0)) ∧ 0 ≤ (winL lo hi la af).getD k 0 ∧ (winL lo hi la af).getD k 0 ≤ 17592186044416 := by
    intro k hk
    rcases (by omega : k = 0 ∨ k = 1 ∨ k = 2 ∨ k = 3 ∨ k = 4) with rfl | rfl | rfl | rfl | rfl
    · exact ⟨kL0, by show 0 ≤ lo - 1; omega, by show lo - 1 ≤ _; omega⟩
    · exact ⟨kL1, by show 0 ≤ lo; omega, by show lo ≤ _; omega⟩
    · exact ⟨kL2, by show 0 ≤ hi; omega, by show hi ≤ _; omega⟩
    · exact ⟨kL3, by show 0 ≤ hi + 1; omega, by show hi + 1 ≤ _; omega⟩
    · exact ⟨kL4, by show 0 ≤ la + 1 + af; omega, by show la + 1 + af ≤ _; omega⟩
  have HLL := Lib.hid hL
  have hs4 : w4.heap.size < w5.heap.size := by omega
  obtain ⟨X, hX⟩ : ∃ X, X = w4.heap.size := ⟨_, rfl⟩
  rw [← hX] at hs4 HLL ⊢
  clear hX kL0 kL1 kL2 kL3 kL4 hL hcw1 hcw2 hcw3 hcw4 hcw5 hfw1 hfw2 hfw3 hfw4 hfw5 hbw1 hbw2 hbw3 hbw4 hbw5
  clear hs0w1 hs1w1 hs0w2 hs1w2 hs0w3 hs1w3 hs0w4 hs1w4 hzw1 hzw2 hzw3 hzw4 hzw5
  rw [show (th + 1 == T - M) = false from by rw [beq_eq_false_iff_ne]; exact hth]
  go_loopw [68] (fun i wr => ∃ k : Nat, k ≤ 5 ∧ i = .int .i64 k ∧ Below w5.heap.size w5 wr) (fun i _ => 5 - (intOf i).toNat)
  case atStart => exact ⟨0, Nat.zero_le _, rfl, Below.refl _ _⟩
  case round =>
    obtain ⟨k, hk, rfl, hb⟩ := hrel
    have hbz := hb.size
    by_cases hlt : k < 5
    · obtain ⟨ct, t0, t1⟩ := HLL.out k hlt
      obtain ⟨t, ht⟩ : ∃ t, t = (winL lo hi la af).getD k 0 := ⟨_, rfl⟩
      rw [← ht] at ct t0 t1
      have dt := (hb.cell (p := ⟨X, k, none⟩) hs4).trans ct
      have dT := (hb.cell (p := ⟨w.heap.size, 0, none⟩) hs0w5).trans kT
      have dM := (hb.cell (p := ⟨w.heap.size, 1, none⟩) hs0w5).trans kM
      have d0 := (hb.cell (p := ⟨w.heap.size + 1, 0, none⟩) hs1w5).trans kS0
      have d1 := (hb.cell (p := ⟨w.heap.size + 1, 1, none⟩) hs1w5).trans kS1
      have d2 := (hb.cell (p := ⟨w.heap.size + 1, 2, none⟩) hs1w5).trans kS2
      have d3 := (hb.cell (p := ⟨w.heap.size + 1, 3, none⟩) hs1w5).trans kS3
      have d4 := (hb.cell (p := ⟨w.heap.size + 1, 4, none⟩) hs1w5).trans kS4
      have d5 := (hb.cell (p := ⟨w.heap.size + 1, 5, none⟩) hs1w5).trans kS5
      have j0 : (0 : Int) ≤ (k : Int) := by omega
      have j1 : (k : Int) < 5 := by omega
      clear ht ct
      by_cases g1 : t ≤ la
      · go_wp2
        go_round
        case rel => exact ⟨k + 1, by omega, by go_num, hb⟩
        case measure => simp [intOf]; omega
      · by_cases g2 : 1099511627776 < t
        · go_wp2
          go_round
          case rel => exact ⟨k + 1, by omega, by go_num, hb⟩
          case measure => simp [intOf]; omega
        · have HT := Lib.hid (show isTime t = true from decide_eq_true ⟨t0, by omega⟩)
          have HLT := Lib.hid (show (2 : Int) ≠ 0 → la < t from fun _ => by omega)
          by_cases g3 : lo ≤ t
          · by_cases g4 : t ≤ hi
            · have HS := Lib.hid (HIN.out t g3 g4)
              go_wp2_with (go_at_call 16; refine (stepP_ok HS.out _ HV.out HT.out HLT.out).mono ?_; rintro e w6 ⟨rfl, hbw6⟩; obtain ⟨hcw6, hfw6⟩ := bcell hbw6; have hzw6 := hbw6.size; (try simp at hzw6); (try have hs0w6 : w.heap.size < w6.heap.size := by omega); (try have hs1w6 : w.heap.size + 1 < w6.heap.size := by omega); (try have hs2w6 : w.heap.size + 1 + 1 < w6.heap.size := by omega); (try have hs3w6 : w.heap.size + 1 + 1 + 1 < w6.heap.size := by omega); (try have hs_w1_w6 : w1.heap.size < w6.heap.size := by omega); (try have hs_w1p_w6 : w1.heap.size + 1 < w6.heap.size := by omega); (try have hs_w2_w6 : w2.heap.size < w6.heap.size := by omega); (try have hs_w2p_w6 : w2.heap.size + 1 < w6.heap.size := by omega); (try have hs_w3_w6 : w3.heap.size < w6.heap.size := by omega); (try have hs_w3p_w6 : w3.heap.size + 1 < w6.heap.size := by omega); (try have hs_w4_w6 : w4.heap.size < w6.heap.size := by omega); (try have hs_w4p_w6 : w4.heap.size + 1 < w6.heap.size := by omega); (try have hs_w5_w6 : w5.heap.size < w6.heap.size := by omega); (try have hs_w5p_w6 : w5.heap.size + 1 < w6.heap.size := by omega); (try have hs_w6_w6 : w6.heap.size < w6.heap.size := by omega); (try have hs_w6p_w6 : w6.heap.size + 1 < w6.heap.size := by omega))
              go_round
              case rel => exact ⟨k + 1, by omega, by go_num, (by
                  repeat' (first | (with_reducible refine Below.setCell ?_ ?_ _) | (with_reducible refine Below.alloc ?_ ?_ _) | (with_reducible refine Below.drew ?_) | (with_reducible exact Below.refl _ _) | (with_reducible assumption) | (with_reducible refine Below.trans ?_ (Below.mono (by assumption) ?_)) | omega | (simp <;> omega)))⟩
              case measure => simp [intOf]; omega
            · have HS := Lib.hid (HOUT.out t (fun h => g4 h.2))
              go_wp2_with (go_at_call 16; refine (stepP_ok HS.out _ HV.out HT.out HLT.out).mono ?_; rintro e w6 ⟨rfl, hbw6⟩; obtain ⟨hcw6, hfw6⟩ := bcell hbw6; have hzw6 := hbw6.size; (try simp at hzw6); (try have hs0w6 : w.heap.size < w6.heap.size := by omega); (try have hs1w6 : w.heap.size + 1 < w6.heap.size := by omega); (try have hs2w6 : w.heap.size + 1 + 1 < w6.heap.size := by omega); (try have hs3w6 : w.heap.size + 1 + 1 + 1 < w6.heap.size := by omega); (try have hs_w1_w6 : w1.heap.size < w6.heap.size := by omega); (try have hs_w1p_w6 : w1.heap.size + 1 < w6.heap.size := by omega); (try have hs_w2_w6 : w2.heap.size < w6.heap.size := by omega); (try have hs_w2p_w6 : w2.heap.size + 1 < w6.heap.size := by omega); (try have hs_w3_w6 : w3.heap.size < w6.heap.size := by omega); (try have hs_w3p_w6 : w3.heap.size + 1 < w6.heap.size := by omega); (try have hs_w4_w6 : w4.heap.size < w6.heap.size := by omega); (try have hs_w4p_w6 : w4.heap.size + 1 < w6.heap.size := by omega); (try have hs_w5_w6 : w5.heap.size < w6.heap.size := by omega); (try have hs_w5p_w6 : w5.heap.size + 1 < w6.heap.size := by omega); (try have hs_w6_w6 : w6.heap.size < w6.heap.size := by omega); (try have hs_w6p_w6 : w6.heap.size + 1 < w6.heap.size := by omega))
              go_round
              case rel => exact ⟨k + 1, by omega, by go_num, (by
                  repeat' (first | (with_reducible refine Below.setCell ?_ ?_ _) | (with_reducible refine Below.alloc ?_ ?_ _) | (with_reducible refine Below.drew ?_) | (with_reducible exact Below.refl _ _) | (with_reducible assumption) | (with_reducible refine Below.trans ?_ (Below.mono (by assumption) ?_)) | omega | (simp <;> omega)))⟩
              case measure => simp [intOf]; omega
          · have HS := Lib.hid (HOUT.out t (fun h => g3 h.1))
            go_wp2_with (go_at_call 16; refine (stepP_ok HS.out _ HV.out HT.out HLT.out).mono ?_; rintro e w6 ⟨rfl, hbw6⟩; obtain ⟨hcw6, hfw6⟩ := bcell hbw6; have hzw6 := hbw6.size; (try simp at hzw6); (try have hs0w6 : w.heap.size < w6.heap.size := by omega); (try have hs1w6 : w.heap.size + 1 < w6.heap.size := by omega); (try have hs2w6 : w.heap.size + 1 + 1 < w6.heap.size := by omega); (try have hs3w6 : w.heap.size + 1 + 1 + 1 < w6.heap.size := by omega); (try have hs_w1_w6 : w1.heap.size < w6.heap.size := by omega); (try have hs_w1p_w6 : w1.heap.size + 1 < w6.heap.size := by omega); (try have hs_w2_w6 : w2.heap.size < w6.heap.size := by omega); (try have hs_w2p_w6 : w2.heap.size + 1 < w6.heap.size := by omega); (try have hs_w3_w6 : w3.heap.size < w6.heap.size := by omega); (try have hs_w3p_w6 : w3.heap.size + 1 < w6.heap.size := by omega); (try have hs_w4_w6 : w4.heap.size < w6.heap.size := by omega); (try have hs_w4p_w6 : w4.heap.size + 1 < w6.heap.size := by omega); (try have hs_w5_w6 : w5.heap.size < w6.heap.size := by omega); (try have hs_w5p_w6 : w5.heap.size + 1 < w6.heap.size := by omega); (try have hs_w6_w6 : w6.heap.size < w6.heap.size := by omega); (try have hs_w6p_w6 : w6.heap.size + 1 < w6.heap.size := by omega))
            go_round
            case rel => exact ⟨k + 1, by omega, by go_num, (by
                repeat' (first | (with_reducible refine Below.setCell ?_ ?_ _) | (with_reducible refine Below.alloc ?_ ?_ _) | (with_reducible refine Below.drew ?_) | (with_reducible exact Below.refl _ _) | (with_reducible assumption) | (with_reducible refine Below.trans ?_ (Below.mono (by assumption) ?_)) | omega | (simp <;> omega)))⟩
            case measure => simp [intOf]; omega
    · obtain rfl : k = 5 := by omega
      go_wp2
      go_ret
      refine ⟨rfl, ?_⟩
      exact hB0.trans (hb.mono hB0.size)

theorem law_windows (T M m th la pe no te af : Int) (w : World) (_ : (Lit.int .i64 T).wf = true) (_ : (Lit.int .i64 M).wf = true) (_ : (Lit.int .i64 m).wf = true) (_ : (Lit.int .i64 th).wf = true) (_ : (Lit.int .i64 la).wf = true) (_ : (Lit.int .i64 pe).wf = true) (_ : (Lit.int .i64 no).wf = true) (_ : (Lit.int .i64 te).wf = true) (ha : (Lit.int .u32 af).wf = true) : Calls Try.prog 6 #[wv T M, sv m th la pe no te, .int .u32 af] w fun e w' => e = .returned (.bool true) ∧ Below w.heap.size w w' := by
  obtain ⟨a0, a1⟩ := u32_bd ha
  by_cases hv : svld T M m th la pe no te = true
  · by_cases hm : m = 2
    · subst hm
      by_cases hth : th + 1 = T - M
      · exact windows_last T M th la pe no te af w hv a0 a1 hth
      · exact windows_ok T M th la pe no te af w hv a0 a1 hth
    · exact windows_no T M m th la pe no te af w (Or.inr hm)
  · exact windows_no T M m th la pe no te af w (Or.inl (by simpa using hv))

end Go.Proofs.Ytcaadikffaflnaa
