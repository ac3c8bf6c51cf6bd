/- The contract of sync.step. -/
import Derived.Test.YtcaadikffaflnaaV4
namespace Go.Proofs.Ytcaadikffaflnaa
open Go.RowKit Go.Sort

theorem svld_cases {T M m th la pe no te : Int} (h : svld T M m th la pe no te = true) : wvld T M = true ∧ (
  (m = 0 ∧ th = 0 ∧ la = 0 ∧ pe = 0 ∧ no = 0 ∧ te = 0) ∨
  (m = 1 ∧ th = 0 ∧ 0 ≤ la ∧ la ≤ 1099511627776 ∧ ((pe = 0 ∧ no = 0 ∧ te = 0) ∨ (1 ≤ pe ∧ pe ≤ la ∧ no = pe ∧ (te = 1 ∨ te = 2)))) ∨
  (m = 2 ∧ 0 ≤ th ∧ th < T - M ∧ 0 ≤ la ∧ la ≤ 1099511627776 ∧ 1 ≤ pe ∧ pe ≤ la ∧ 1 ≤ no ∧ no ≤ pe ∧ te = 0)) := by
  simp only [svld, Bool.and_eq_true, decide_eq_true_eq] at h
  exact h

theorem expc_bd {T M th no : Int} (h : wvld T M = true) (hn0 : 0 ≤ no) (hn1 : no ≤ 1099511627776) : 0 ≤ expc T M th no ∧ expc T M th no ≤ 3298534883328 := by
  obtain ⟨h1, h2, _⟩ := wvld_bd h
  unfold expc
  split
  · have hM : M = 1 ∨ M = 2 := by omega
    rcases hM with rfl | rfl <;> omega
  · omega

set_option maxHeartbeats 4000000 in
theorem step_in (T M m th la pe no te t : Int) (w : World) (hv : svld T M m th la pe no te = true) (ht : isTime t = true) (hlt : m ≠ 0 → la < t) : Calls Try.prog 32 #[wv T M, sv m th la pe no te, .int .i64 t] w fun e w' => e = .returned (stepS T M m th la no te t).val ∧ Below w.heap.size w w' := by
  obtain ⟨hw, hc⟩ := svld_cases hv
  obtain ⟨h1, h2, h3, h4, _⟩ := wvld_bd hw
  obtain ⟨t0, t1⟩ := time_bd ht
  have HW := Lib.hid hw
  clear hv ht
  rcases hc with ⟨rfl, rfl, rfl, rfl, rfl, rfl⟩ | ⟨rfl, rfl, l0, l1, hc⟩ | ⟨rfl, th0, th1, l0, l1, p0, p1, n0, n1, rfl⟩
  · have hs : stepS T M 0 0 0 0 0 t = ⟨1, 0, t, 0, 0, 0⟩ := rfl
    rw [hs]; unfold SyS.val; clear hs hlt
    go_enter Try.func32, Try.ntmps32
    go_wp2
    refine bodyPost_ret (v := sv 1 0 t 0 0 0) (by simp [results, Try.results32, go_sem, *]) rfl ?_
    refine ⟨rfl, ?_⟩
    repeat' (first | (with_reducible refine Below.setCell ?_ ?_ _) | (with_reducible refine Below.alloc ?_ ?_ _) | (with_reducible refine Below.drew ?_) | (with_reducible exact Below.refl _ _) | (with_reducible assumption) | (with_reducible refine Below.trans ?_ (Below.mono (by assumption) ?_)) | omega | (simp <;> omega))
  · have hlt := hlt (by decide)
    have hn : 0 ≤ no ∧ no ≤ 1099511627776 := by omega
    obtain ⟨n0, n1⟩ := hn
    by_cases h2 : te = 2
    · subst h2
      by_cases hg : gapB M no (t - la) = true
      · have hs : stepS T M 1 0 la no 2 t = ⟨2, 0, t, t - la, (t - la) / (M + 1), 0⟩ := by simp [stepS, hg]
        rw [hs]; unfold SyS.val; clear hs hc
        go_enter Try.func32, Try.ntmps32
        go_wp2_with (go_at_call 33; refine (gap_any _ _ _ _ _ (by omega) (by omega) (by omega) (by omega)).mono ?_; rintro e w1 ⟨rfl, hbw1⟩; obtain ⟨hcw1, hfw1⟩ := bcell hbw1; have hzw1 := hbw1.size; (try simp at hzw1); (try have hs0w1 : w.heap.size < w1.heap.size := by omega); (try have hs1w1 : w.heap.size + 1 < w1.heap.size := by omega); (try have hs2w1 : w.heap.size + 1 + 1 < w1.heap.size := by omega); (try have hs3w1 : w.heap.size + 1 + 1 + 1 < w1.heap.size := by omega); (try have hs_w1_w1 : w1.heap.size < w1.heap.size := by omega); (try have hs_w1p_w1 : w1.heap.size + 1 < w1.heap.size := by omega); (try have hs_w2_w1 : w2.heap.size < w1.heap.size := by omega); (try have hs_w2p_w1 : w2.heap.size + 1 < w1.heap.size := by omega); (try have hs_w3_w1 : w3.heap.size < w1.heap.size := by omega); (try have hs_w3p_w1 : w3.heap.size + 1 < w1.heap.size := by omega); (try have hs_w4_w1 : w4.heap.size < w1.heap.size := by omega); (try have hs_w4p_w1 : w4.heap.size + 1 < w1.heap.size := by omega); (try have hs_w5_w1 : w5.heap.size < w1.heap.size := by omega); (try have hs_w5p_w1 : w5.heap.size + 1 < w1.heap.size := by omega); (try have hs_w6_w1 : w6.heap.size < w1.heap.size := by omega); (try have hs_w6p_w1 : w6.heap.size + 1 < w1.heap.size := by omega))
        refine bodyPost_ret (v := sv 2 0 t (t - la) ((t - la) / (M + 1)) 0) (by simp [results, Try.results32, go_sem, *]) rfl ?_
        refine ⟨rfl, ?_⟩
        repeat' (first | (with_reducible refine Below.setCell ?_ ?_ _) | (with_reducible refine Below.alloc ?_ ?_ _) | (with_reducible refine Below.drew ?_) | (with_reducible exact Below.refl _ _) | (with_reducible assumption) | (with_reducible refine Below.trans ?_ (Below.mono (by assumption) ?_)) | omega | (simp <;> omega))
      · have hg' : gapB M no (t - la) = false := by simpa using hg
        by_cases hf : fitsB (t - la) no = true
        · have hs : stepS T M 1 0 la no 2 t = ⟨1, 0, t, t - la, t - la, 2⟩ := by simp [stepS, hg', hf]
          rw [hs]; unfold SyS.val; clear hs hc hg
          go_enter Try.func32, Try.ntmps32
          go_wp2_with (first
            | (go_at_call 33; refine (gap_any _ _ _ _ _ (by omega) (by omega) (by omega) (by omega)).mono ?_; rintro e w1 ⟨rfl, hbw1⟩; obtain ⟨hcw1, hfw1⟩ := bcell hbw1; have hzw1 := hbw1.size; (try simp at hzw1); (try have hs0w1 : w.heap.size < w1.heap.size := by omega); (try have hs1w1 : w.heap.size + 1 < w1.heap.size := by omega); (try have hs2w1 : w.heap.size + 1 + 1 < w1.heap.size := by omega); (try have hs3w1 : w.heap.size + 1 + 1 + 1 < w1.heap.size := by omega); (try have hs_w1_w1 : w1.heap.size < w1.heap.size := by omega); (try have hs_w1p_w1 : w1.heap.size + 1 < w1.heap.size := by omega); (try have hs_w2_w1 : w2.heap.size < w1.heap.size := by omega); (try have hs_w2p_w1 : w2.heap.size + 1 < w1.heap.size := by omega); (try have hs_w3_w1 : w3.heap.size < w1.heap.size := by omega); (try have hs_w3p_w1 : w3.heap.size + 1 < w1.heap.size := by omega); (try have hs_w4_w1 : w4.heap.size < w1.heap.size := by omega); (try have hs_w4p_w1 : w4.heap.size + 1 < w1.heap.size := by omega); (try have hs_w5_w1 : w5.heap.size < w1.heap.size := by omega); (try have hs_w5p_w1 : w5.heap.size + 1 < w1.heap.size := by omega); (try have hs_w6_w1 : w6.heap.size < w1.heap.size := by omega); (try have hs_w6p_w1 : w6.heap.size + 1 < w1.heap.size := by omega))
            | (go_at_call 39; refine (fits_any _ _ _ (by omega) (by omega) (by omega) (by omega)).mono ?_; rintro e w1 ⟨rfl, rfl⟩))
          refine bodyPost_ret (v := sv 1 0 t (t - la) (t - la) 2) (by simp [results, Try.results32, go_sem, *]) rfl ?_
          refine ⟨rfl, ?_⟩
          repeat' (first | (with_reducible refine Below.setCell ?_ ?_ _) | (with_reducible refine Below.alloc ?_ ?_ _) | (with_reducible refine Below.drew ?_) | (with_reducible exact Below.refl _ _) | (with_reducible assumption) | (with_reducible refine Below.trans ?_ (Below.mono (by assumption) ?_)) | omega | (simp <;> omega))
        · have hf' : fitsB (t - la) no = false := by simpa using hf
          have hs : stepS T M 1 0 la no 2 t = ⟨1, 0, t, t - la, t - la, 1⟩ := by simp [stepS, hg', hf']
          rw [hs]; unfold SyS.val; clear hs hc hg hf
          go_enter Try.func32, Try.ntmps32
          go_wp2_with (first
            | (go_at_call 33; refine (gap_any _ _ _ _ _ (by omega) (by omega) (by omega) (by omega)).mono ?_; rintro e w1 ⟨rfl, hbw1⟩; obtain ⟨hcw1, hfw1⟩ := bcell hbw1; have hzw1 := hbw1.size; (try simp at hzw1); (try have hs0w1 : w.heap.size < w1.heap.size := by omega); (try have hs1w1 : w.heap.size + 1 < w1.heap.size := by omega); (try have hs2w1 : w.heap.size + 1 + 1 < w1.heap.size := by omega); (try have hs3w1 : w.heap.size + 1 + 1 + 1 < w1.heap.size := by omega); (try have hs_w1_w1 : w1.heap.size < w1.heap.size := by omega); (try have hs_w1p_w1 : w1.heap.size + 1 < w1.heap.size := by omega); (try have hs_w2_w1 : w2.heap.size < w1.heap.size := by omega); (try have hs_w2p_w1 : w2.heap.size + 1 < w1.heap.size := by omega); (try have hs_w3_w1 : w3.heap.size < w1.heap.size := by omega); (try have hs_w3p_w1 : w3.heap.size + 1 < w1.heap.size := by omega); (try have hs_w4_w1 : w4.heap.size < w1.heap.size := by omega); (try have hs_w4p_w1 : w4.heap.size + 1 < w1.heap.size := by omega); (try have hs_w5_w1 : w5.heap.size < w1.heap.size := by omega); (try have hs_w5p_w1 : w5.heap.size + 1 < w1.heap.size := by omega); (try have hs_w6_w1 : w6.heap.size < w1.heap.size := by omega); (try have hs_w6p_w1 : w6.heap.size + 1 < w1.heap.size := by omega))
            | (go_at_call 39; refine (fits_any _ _ _ (by omega) (by omega) (by omega) (by omega)).mono ?_; rintro e w1 ⟨rfl, rfl⟩))
          refine bodyPost_ret (v := sv 1 0 t (t - la) (t - la) 1) (by simp [results, Try.results32, go_sem, *]) rfl ?_
          refine ⟨rfl, ?_⟩
          repeat' (first | (with_reducible refine Below.setCell ?_ ?_ _) | (with_reducible refine Below.alloc ?_ ?_ _) | (with_reducible refine Below.drew ?_) | (with_reducible exact Below.refl _ _) | (with_reducible assumption) | (with_reducible refine Below.trans ?_ (Below.mono (by assumption) ?_)) | omega | (simp <;> omega))
    · have e2 : (te == 2) = false := by rw [beq_eq_false_iff_ne]; exact h2
      by_cases h0 : te = 0
      · subst h0
        have hs : stepS T M 1 0 la no 0 t = ⟨1, 0, t, t - la, t - la, 1⟩ := by simp [stepS]
        rw [hs]; unfold SyS.val; clear hs hc
        go_enter Try.func32, Try.ntmps32
        go_wp2
        refine bodyPost_ret (v := sv 1 0 t (t - la) (t - la) 1) (by simp [results, Try.results32, go_sem, *]) rfl ?_
        refine ⟨rfl, ?_⟩
        repeat' (first | (with_reducible refine Below.setCell ?_ ?_ _) | (with_reducible refine Below.alloc ?_ ?_ _) | (with_reducible refine Below.drew ?_) | (with_reducible exact Below.refl _ _) | (with_reducible assumption) | (with_reducible refine Below.trans ?_ (Below.mono (by assumption) ?_)) | omega | (simp <;> omega))
      · obtain rfl : te = 1 := by omega
        by_cases hf : fitsB (t - la) no = true
        · have hs : stepS T M 1 0 la no 1 t = ⟨1, 0, t, t - la, t - la, 2⟩ := by simp [stepS, hf]
          rw [hs]; unfold SyS.val; clear hs hc
          go_enter Try.func32, Try.ntmps32
          go_wp2_with (go_at_call 39; refine (fits_any _ _ _ (by omega) (by omega) (by omega) (by omega)).mono ?_; rintro e w1 ⟨rfl, rfl⟩)
          refine bodyPost_ret (v := sv 1 0 t (t - la) (t - la) 2) (by simp [results, Try.results32, go_sem, *]) rfl ?_
          refine ⟨rfl, ?_⟩
          repeat' (first | (with_reducible refine Below.setCell ?_ ?_ _) | (with_reducible refine Below.alloc ?_ ?_ _) | (with_reducible refine Below.drew ?_) | (with_reducible exact Below.refl _ _) | (with_reducible assumption) | (with_reducible refine Below.trans ?_ (Below.mono (by assumption) ?_)) | omega | (simp <;> omega))
        · have hf' : fitsB (t - la) no = false := by simpa using hf
          have hs : stepS T M 1 0 la no 1 t = ⟨1, 0, t, t - la, t - la, 1⟩ := by simp [stepS, hf']
          rw [hs]; unfold SyS.val; clear hs hc hf
          go_enter Try.func32, Try.ntmps32
          go_wp2_with (go_at_call 39; refine (fits_any _ _ _ (by omega) (by omega) (by omega) (by omega)).mono ?_; rintro e w1 ⟨rfl, rfl⟩)
          refine bodyPost_ret (v := sv 1 0 t (t - la) (t - la) 1) (by simp [results, Try.results32, go_sem, *]) rfl ?_
          refine ⟨rfl, ?_⟩
          repeat' (first | (with_reducible refine Below.setCell ?_ ?_ _) | (with_reducible refine Below.alloc ?_ ?_ _) | (with_reducible refine Below.drew ?_) | (with_reducible exact Below.refl _ _) | (with_reducible assumption) | (with_reducible refine Below.trans ?_ (Below.mono (by assumption) ?_)) | omega | (simp <;> omega))
  · have hlt := hlt (by decide)
    obtain ⟨x0, x1⟩ := expc_bd (th := th) HW.out (show 0 ≤ no by omega) (show no ≤ 1099511627776 by omega)
    by_cases hf : fitsB (t - la) (expc T M th no) = true
    · by_cases hl : th = T - M - 1
      · have e9 : decide (th = T - M - 1) = true := by simpa using hl
        have hs : stepS T M 2 th la no 0 t = ⟨2, 0, t, t - la, (t - la) / (M + 1), 0⟩ := by unfold stepS; rw [if_neg (by decide), if_pos rfl, if_neg (by rw [hf]; decide), if_pos hl]
        rw [hs]; unfold SyS.val; clear hs hl
        go_enter Try.func32, Try.ntmps32
        go_wp2_with (first
          | (go_at_call 38; refine (expected_any _ _ _ _ _ _ _ _ _ HW.out (by omega) (by omega)).mono ?_; rintro e w1 ⟨rfl, hbw1⟩; obtain ⟨hcw1, hfw1⟩ := bcell hbw1; have hzw1 := hbw1.size; (try simp at hzw1); (try have hs0w1 : w.heap.size < w1.heap.size := by omega); (try have hs1w1 : w.heap.size + 1 < w1.heap.size := by omega); (try have hs2w1 : w.heap.size + 1 + 1 < w1.heap.size := by omega); (try have hs3w1 : w.heap.size + 1 + 1 + 1 < w1.heap.size := by omega); (try have hs_w1_w1 : w1.heap.size < w1.heap.size := by omega); (try have hs_w1p_w1 : w1.heap.size + 1 < w1.heap.size := by omega); (try have hs_w2_w1 : w2.heap.size < w1.heap.size := by omega); (try have hs_w2p_w1 : w2.heap.size + 1 < w1.heap.size := by omega); (try have hs_w3_w1 : w3.heap.size < w1.heap.size := by omega); (try have hs_w3p_w1 : w3.heap.size + 1 < w1.heap.size := by omega); (try have hs_w4_w1 : w4.heap.size < w1.heap.size := by omega); (try have hs_w4p_w1 : w4.heap.size + 1 < w1.heap.size := by omega); (try have hs_w5_w1 : w5.heap.size < w1.heap.size := by omega); (try have hs_w5p_w1 : w5.heap.size + 1 < w1.heap.size := by omega); (try have hs_w6_w1 : w6.heap.size < w1.heap.size := by omega); (try have hs_w6p_w1 : w6.heap.size + 1 < w1.heap.size := by omega))
          | (go_at_call 39; refine (fits_any _ _ _ (by omega) (by omega) (by omega) (by omega)).mono ?_; rintro e w1 ⟨rfl, rfl⟩)
          | (go_at_call 40; refine (last_any _ _ _ _ _ _ _ _ _ HW.out).mono ?_; rintro e w2 ⟨rfl, hbw2⟩; obtain ⟨hcw2, hfw2⟩ := bcell hbw2; have hzw2 := hbw2.size; (try simp at hzw2); (try have hs0w2 : w.heap.size < w2.heap.size := by omega); (try have hs1w2 : w.heap.size + 1 < w2.heap.size := by omega); (try have hs2w2 : w.heap.size + 1 + 1 < w2.heap.size := by omega); (try have hs3w2 : w.heap.size + 1 + 1 + 1 < w2.heap.size := by omega); (try have hs_w1_w2 : w1.heap.size < w2.heap.size := by omega); (try have hs_w1p_w2 : w1.heap.size + 1 < w2.heap.size := by omega); (try have hs_w2_w2 : w2.heap.size < w2.heap.size := by omega); (try have hs_w2p_w2 : w2.heap.size + 1 < w2.heap.size := by omega); (try have hs_w3_w2 : w3.heap.size < w2.heap.size := by omega); (try have hs_w3p_w2 : w3.heap.size + 1 < w2.heap.size := by omega); (try have hs_w4_w2 : w4.heap.size < w2.heap.size := by omega); (try have hs_w4p_w2 : w4.heap.size + 1 < w2.heap.size := by omega); (try have hs_w5_w2 : w5.heap.size < w2.heap.size := by omega); (try have hs_w5p_w2 : w5.heap.size + 1 < w2.heap.size := by omega); (try have hs_w6_w2 : w6.heap.size < w2.heap.size := by omega); (try have hs_w6p_w2 : w6.heap.size + 1 < w2.heap.size := by omega)))
        refine bodyPost_ret (v := sv 2 0 t (t - la) ((t - la) / (M + 1)) 0) (by simp [results, Try.results32, go_sem, *]) rfl ?_
        refine ⟨rfl, ?_⟩
        repeat' (first | (with_reducible refine Below.setCell ?_ ?_ _) | (with_reducible refine Below.alloc ?_ ?_ _) | (with_reducible refine Below.drew ?_) | (with_reducible exact Below.refl _ _) | (with_reducible assumption) | (with_reducible refine Below.trans ?_ (Below.mono (by assumption) ?_)) | omega | (simp <;> omega))
      · have e9 : decide (th = T - M - 1) = false := by simpa using hl
        have hs : stepS T M 2 th la no 0 t = ⟨2, th + 1, t, t - la, t - la, 0⟩ := by unfold stepS; rw [if_neg (by decide), if_pos rfl, if_neg (by rw [hf]; decide), if_neg hl]
        rw [hs]; unfold SyS.val; clear hs hl
        go_enter Try.func32, Try.ntmps32
        go_wp2_with (first
          | (go_at_call 38; refine (expected_any _ _ _ _ _ _ _ _ _ HW.out (by omega) (by omega)).mono ?_; rintro e w1 ⟨rfl, hbw1⟩; obtain ⟨hcw1, hfw1⟩ := bcell hbw1; have hzw1 := hbw1.size; (try simp at hzw1); (try have hs0w1 : w.heap.size < w1.heap.size := by omega); (try have hs1w1 : w.heap.size + 1 < w1.heap.size := by omega); (try have hs2w1 : w.heap.size + 1 + 1 < w1.heap.size := by omega); (try have hs3w1 : w.heap.size + 1 + 1 + 1 < w1.heap.size := by omega); (try have hs_w1_w1 : w1.heap.size < w1.heap.size := by omega); (try have hs_w1p_w1 : w1.heap.size + 1 < w1.heap.size := by omega); (try have hs_w2_w1 : w2.heap.size < w1.heap.size := by omega); (try have hs_w2p_w1 : w2.heap.size + 1 < w1.heap.size := by omega); (try have hs_w3_w1 : w3.heap.size < w1.heap.size := by omega); (try have hs_w3p_w1 : w3.heap.size + 1 < w1.heap.size := by omega); (try have hs_w4_w1 : w4.heap.size < w1.heap.size := by omega); (try have hs_w4p_w1 : w4.heap.size + 1 < w1.heap.size := by omega); (try have hs_w5_w1 : w5.heap.size < w1.heap.size := by omega); (try have hs_w5p_w1 : w5.heap.size + 1 < w1.heap.size := by omega); (try have hs_w6_w1 : w6.heap.size < w1.heap.size := by omega); (try have hs_w6p_w1 : w6.heap.size + 1 < w1.heap.size := by omega))
          | (go_at_call 39; refine (fits_any _ _ _ (by omega) (by omega) (by omega) (by omega)).mono ?_; rintro e w1 ⟨rfl, rfl⟩)
          | (go_at_call 40; refine (last_any _ _ _ _ _ _ _ _ _ HW.out).mono ?_; rintro e w2 ⟨rfl, hbw2⟩; obtain ⟨hcw2, hfw2⟩ := bcell hbw2; have hzw2 := hbw2.size; (try simp at hzw2); (try have hs0w2 : w.heap.size < w2.heap.size := by omega); (try have hs1w2 : w.heap.size + 1 < w2.heap.size := by omega); (try have hs2w2 : w.heap.size + 1 + 1 < w2.heap.size := by omega); (try have hs3w2 : w.heap.size + 1 + 1 + 1 < w2.heap.size := by omega); (try have hs_w1_w2 : w1.heap.size < w2.heap.size := by omega); (try have hs_w1p_w2 : w1.heap.size + 1 < w2.heap.size := by omega); (try have hs_w2_w2 : w2.heap.size < w2.heap.size := by omega); (try have hs_w2p_w2 : w2.heap.size + 1 < w2.heap.size := by omega); (try have hs_w3_w2 : w3.heap.size < w2.heap.size := by omega); (try have hs_w3p_w2 : w3.heap.size + 1 < w2.heap.size := by omega); (try have hs_w4_w2 : w4.heap.size < w2.heap.size := by omega); (try have hs_w4p_w2 : w4.heap.size + 1 < w2.heap.size := by omega); (try have hs_w5_w2 : w5.heap.size < w2.heap.size := by omega); (try have hs_w5p_w2 : w5.heap.size + 1 < w2.heap.size := by omega); (try have hs_w6_w2 : w6.heap.size < w2.heap.size := by omega); (try have hs_w6p_w2 : w6.heap.size + 1 < w2.heap.size := by omega)))
        refine bodyPost_ret (v := sv 2 (th + 1) t (t - la) (t - la) 0) (by simp [results, Try.results32, go_sem, *]) rfl ?_
        refine ⟨rfl, ?_⟩
        repeat' (first | (with_reducible refine Below.setCell ?_ ?_ _) | (with_reducible refine Below.alloc ?_ ?_ _) | (with_reducible refine Below.drew ?_) | (with_reducible exact Below.refl _ _) | (with_reducible assumption) | (with_reducible refine Below.trans ?_ (Below.mono (by assumption) ?_)) | omega | (simp <;> omega))
    · have hf' : fitsB (t - la) (expc T M th no) = false := by simpa using hf
      have hs : stepS T M 2 th la no 0 t = ⟨0, 0, 0, 0, 0, 0⟩ := by unfold stepS; rw [if_neg (by decide), if_pos rfl, if_pos hf']
      rw [hs]; unfold SyS.val; clear hs hf
      go_enter Try.func32, Try.ntmps32
      go_wp2_with (first
        | (go_at_call 38; refine (expected_any _ _ _ _ _ _ _ _ _ HW.out (by omega) (by omega)).mono ?_; rintro e w1 ⟨rfl, hbw1⟩; obtain ⟨hcw1, hfw1⟩ := bcell hbw1; have hzw1 := hbw1.size; (try simp at hzw1); (try have hs0w1 : w.heap.size < w1.heap.size := by omega); (try have hs1w1 : w.heap.size + 1 < w1.heap.size := by omega); (try have hs2w1 : w.heap.size + 1 + 1 < w1.heap.size := by omega); (try have hs3w1 : w.heap.size + 1 + 1 + 1 < w1.heap.size := by omega); (try have hs_w1_w1 : w1.heap.size < w1.heap.size := by omega); (try have hs_w1p_w1 : w1.heap.size + 1 < w1.heap.size := by omega); (try have hs_w2_w1 : w2.heap.size < w1.heap.size := by omega); (try have hs_w2p_w1 : w2.heap.size + 1 < w1.heap.size := by omega); (try have hs_w3_w1 : w3.heap.size < w1.heap.size := by omega); (try have hs_w3p_w1 : w3.heap.size + 1 < w1.heap.size := by omega); (try have hs_w4_w1 : w4.heap.size < w1.heap.size := by omega); (try have hs_w4p_w1 : w4.heap.size + 1 < w1.heap.size := by omega); (try have hs_w5_w1 : w5.heap.size < w1.heap.size := by omega); (try have hs_w5p_w1 : w5.heap.size + 1 < w1.heap.size := by omega); (try have hs_w6_w1 : w6.heap.size < w1.heap.size := by omega); (try have hs_w6p_w1 : w6.heap.size + 1 < w1.heap.size := by omega))
        | (go_at_call 39; refine (fits_any _ _ _ (by omega) (by omega) (by omega) (by omega)).mono ?_; rintro e w1 ⟨rfl, rfl⟩))
      refine bodyPost_ret (v := sv 0 0 0 0 0 0) (by simp [results, Try.results32, go_sem, *]) rfl ?_
      refine ⟨rfl, ?_⟩
      repeat' (first | (with_reducible refine Below.setCell ?_ ?_ _) | (with_reducible refine Below.alloc ?_ ?_ _) | (with_reducible refine Below.drew ?_) | (with_reducible exact Below.refl _ _) | (with_reducible assumption) | (with_reducible refine Below.trans ?_ (Below.mono (by assumption) ?_)) | omega | (simp <;> omega))

end Go.Proofs.Ytcaadikffaflnaa
