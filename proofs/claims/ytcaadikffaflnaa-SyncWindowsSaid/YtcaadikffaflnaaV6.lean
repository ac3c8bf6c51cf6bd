/- The contract of the reference's Step, and of the functions that tell a gap. -/
import Derived.Test.YtcaadikffaflnaaV5
namespace Go.Proofs.Ytcaadikffaflnaa
open Go.RowKit Go.Sort

def gapR (T M n p : Int) : Bool := wvld T M && decide (1 ≤ n ∧ n ≤ 1099511627776 ∧ 1 ≤ p ∧ p ≤ 1099511627776) && gapB M n p

theorem gapR_in {T M n p : Int} (hw : wvld T M = true) (a : 1 ≤ n) (b : n ≤ 1099511627776) (c : 1 ≤ p) (d : p ≤ 1099511627776) : gapR T M n p = gapB M n p := by
  simp [gapR, hw, a, b, c, d]

theorem rgap_any (T M n p : Int) (w : World) : Calls Try.prog 22 #[wv T M, .int .i64 n, .int .i64 p] w fun e w' => e = .returned (.bool (gapR T M n p)) ∧ Below w.heap.size w w' := by
  by_cases hw : wvld T M = true
  · by_cases hr : 1 ≤ n ∧ n ≤ 1099511627776 ∧ 1 ≤ p ∧ p ≤ 1099511627776
    · obtain ⟨r1, r2, r3, r4⟩ := hr
      rw [gapR_in hw r1 r2 r3 r4]
      by_cases h : M = 1
      · subst h
        go_enter Try.func22, Try.ntmps22
        go_wp2_with (go_at_call 34; refine (rwvalid_any _ _ _).mono ?_; rintro e w1 ⟨rfl, hbw1⟩; obtain ⟨hcw1, hfw1⟩ := bcell hbw1; have hzw1 := hbw1.size; (try simp at hzw1); (try have hs0w1 : w.heap.size < w1.heap.size := by omega); (try have hs1w1 : w.heap.size + 1 < w1.heap.size := by omega); (try have hs2w1 : w.heap.size + 1 + 1 < w1.heap.size := by omega); (try have hs3w1 : w.heap.size + 1 + 1 + 1 < w1.heap.size := by omega); (try have hs_w1_w1 : w1.heap.size < w1.heap.size := by omega); (try have hs_w1p_w1 : w1.heap.size + 1 < w1.heap.size := by omega); (try have hs_w2_w1 : w2.heap.size < w1.heap.size := by omega); (try have hs_w2p_w1 : w2.heap.size + 1 < w1.heap.size := by omega); (try have hs_w3_w1 : w3.heap.size < w1.heap.size := by omega); (try have hs_w3p_w1 : w3.heap.size + 1 < w1.heap.size := by omega); (try have hs_w4_w1 : w4.heap.size < w1.heap.size := by omega); (try have hs_w4p_w1 : w4.heap.size + 1 < w1.heap.size := by omega); (try have hs_w5_w1 : w5.heap.size < w1.heap.size := by omega); (try have hs_w5p_w1 : w5.heap.size + 1 < w1.heap.size := by omega); (try have hs_w6_w1 : w6.heap.size < w1.heap.size := by omega); (try have hs_w6p_w1 : w6.heap.size + 1 < w1.heap.size := by omega))
        all_goals (go_ret; refine ⟨ret_bool (by simp [gapB]), ?_⟩; (repeat' (first | (with_reducible refine Below.setCell ?_ ?_ _) | (with_reducible refine Below.alloc ?_ ?_ _) | (with_reducible refine Below.drew ?_) | (with_reducible exact Below.refl _ _) | (with_reducible assumption) | (with_reducible refine Below.trans ?_ (Below.mono (by assumption) ?_)) | omega | (simp <;> omega))))
      · have e1 : (M == 1) = false := by rw [beq_eq_false_iff_ne]; exact h
        have e2 : gapB M n p = decide (2 * n < p) := by unfold gapB; rw [if_neg h]
        rw [e2]
        clear e2 h
        go_enter Try.func22, Try.ntmps22
        go_wp2_with (go_at_call 34; refine (rwvalid_any _ _ _).mono ?_; rintro e w1 ⟨rfl, hbw1⟩; obtain ⟨hcw1, hfw1⟩ := bcell hbw1; have hzw1 := hbw1.size; (try simp at hzw1); (try have hs0w1 : w.heap.size < w1.heap.size := by omega); (try have hs1w1 : w.heap.size + 1 < w1.heap.size := by omega); (try have hs2w1 : w.heap.size + 1 + 1 < w1.heap.size := by omega); (try have hs3w1 : w.heap.size + 1 + 1 + 1 < w1.heap.size := by omega); (try have hs_w1_w1 : w1.heap.size < w1.heap.size := by omega); (try have hs_w1p_w1 : w1.heap.size + 1 < w1.heap.size := by omega); (try have hs_w2_w1 : w2.heap.size < w1.heap.size := by omega); (try have hs_w2p_w1 : w2.heap.size + 1 < w1.heap.size := by omega); (try have hs_w3_w1 : w3.heap.size < w1.heap.size := by omega); (try have hs_w3p_w1 : w3.heap.size + 1 < w1.heap.size := by omega); (try have hs_w4_w1 : w4.heap.size < w1.heap.size := by omega); (try have hs_w4p_w1 : w4.heap.size + 1 < w1.heap.size := by omega); (try have hs_w5_w1 : w5.heap.size < w1.heap.size := by omega); (try have hs_w5p_w1 : w5.heap.size + 1 < w1.heap.size := by omega); (try have hs_w6_w1 : w6.heap.size < w1.heap.size := by omega); (try have hs_w6p_w1 : w6.heap.size + 1 < w1.heap.size := by omega))
        all_goals (go_ret; refine ⟨ret_bool (by simp), ?_⟩; (repeat' (first | (with_reducible refine Below.setCell ?_ ?_ _) | (with_reducible refine Below.alloc ?_ ?_ _) | (with_reducible refine Below.drew ?_) | (with_reducible exact Below.refl _ _) | (with_reducible assumption) | (with_reducible refine Below.trans ?_ (Below.mono (by assumption) ?_)) | omega | (simp <;> omega))))
    · have e : gapR T M n p = false := by simp only [gapR, decide_eq_false hr, Bool.and_false, Bool.false_and]
      rw [e]
      go_enter Try.func22, Try.ntmps22
      go_wp2_with (go_at_call 34; refine (rwvalid_any _ _ _).mono ?_; rintro e w1 ⟨rfl, hbw1⟩; obtain ⟨hcw1, hfw1⟩ := bcell hbw1; have hzw1 := hbw1.size; (try simp at hzw1); (try have hs0w1 : w.heap.size < w1.heap.size := by omega); (try have hs1w1 : w.heap.size + 1 < w1.heap.size := by omega); (try have hs2w1 : w.heap.size + 1 + 1 < w1.heap.size := by omega); (try have hs3w1 : w.heap.size + 1 + 1 + 1 < w1.heap.size := by omega); (try have hs_w1_w1 : w1.heap.size < w1.heap.size := by omega); (try have hs_w1p_w1 : w1.heap.size + 1 < w1.heap.size := by omega); (try have hs_w2_w1 : w2.heap.size < w1.heap.size := by omega); (try have hs_w2p_w1 : w2.heap.size + 1 < w1.heap.size := by omega); (try have hs_w3_w1 : w3.heap.size < w1.heap.size := by omega); (try have hs_w3p_w1 : w3.heap.size + 1 < w1.heap.size := by omega); (try have hs_w4_w1 : w4.heap.size < w1.heap.size := by omega); (try have hs_w4p_w1 : w4.heap.size + 1 < w1.heap.size := by omega); (try have hs_w5_w1 : w5.heap.size < w1.heap.size := by omega); (try have hs_w5p_w1 : w5.heap.size + 1 < w1.heap.size := by omega); (try have hs_w6_w1 : w6.heap.size < w1.heap.size := by omega); (try have hs_w6p_w1 : w6.heap.size + 1 < w1.heap.size := by omega))
      all_goals (first | (exfalso; omega) | (go_ret; refine ⟨rfl, ?_⟩; (repeat' (first | (with_reducible refine Below.setCell ?_ ?_ _) | (with_reducible refine Below.alloc ?_ ?_ _) | (with_reducible refine Below.drew ?_) | (with_reducible exact Below.refl _ _) | (with_reducible assumption) | (with_reducible refine Below.trans ?_ (Below.mono (by assumption) ?_)) | omega | (simp <;> omega)))))
  · have hw' : wvld T M = false := by simpa using hw
    have e : gapR T M n p = false := by simp [gapR, hw']
    rw [e]
    clear e hw
    go_enter Try.func22, Try.ntmps22
    go_wp2_with (go_at_call 34; refine (rwvalid_any _ _ _).mono ?_; rintro e w1 ⟨rfl, hbw1⟩; obtain ⟨hcw1, hfw1⟩ := bcell hbw1; have hzw1 := hbw1.size; (try simp at hzw1); (try have hs0w1 : w.heap.size < w1.heap.size := by omega); (try have hs1w1 : w.heap.size + 1 < w1.heap.size := by omega); (try have hs2w1 : w.heap.size + 1 + 1 < w1.heap.size := by omega); (try have hs3w1 : w.heap.size + 1 + 1 + 1 < w1.heap.size := by omega); (try have hs_w1_w1 : w1.heap.size < w1.heap.size := by omega); (try have hs_w1p_w1 : w1.heap.size + 1 < w1.heap.size := by omega); (try have hs_w2_w1 : w2.heap.size < w1.heap.size := by omega); (try have hs_w2p_w1 : w2.heap.size + 1 < w1.heap.size := by omega); (try have hs_w3_w1 : w3.heap.size < w1.heap.size := by omega); (try have hs_w3p_w1 : w3.heap.size + 1 < w1.heap.size := by omega); (try have hs_w4_w1 : w4.heap.size < w1.heap.size := by omega); (try have hs_w4p_w1 : w4.heap.size + 1 < w1.heap.size := by omega); (try have hs_w5_w1 : w5.heap.size < w1.heap.size := by omega); (try have hs_w5p_w1 : w5.heap.size + 1 < w1.heap.size := by omega); (try have hs_w6_w1 : w6.heap.size < w1.heap.size := by omega); (try have hs_w6p_w1 : w6.heap.size + 1 < w1.heap.size := by omega))
    go_ret
    refine ⟨rfl, ?_⟩
    repeat' (first | (with_reducible refine Below.setCell ?_ ?_ _) | (with_reducible refine Below.alloc ?_ ?_ _) | (with_reducible refine Below.drew ?_) | (with_reducible exact Below.refl _ _) | (with_reducible assumption) | (with_reducible refine Below.trans ?_ (Below.mono (by assumption) ?_)) | omega | (simp <;> omega))

theorem rgap_in (T M n p : Int) (w : World) (hw : wvld T M = true) (a : 1 ≤ n) (b : n ≤ 1099511627776) (c : 1 ≤ p) (d : p ≤ 1099511627776) : Calls Try.prog 22 #[wv T M, .int .i64 n, .int .i64 p] w fun e w' => e = .returned (.bool (gapB M n p)) ∧ Below w.heap.size w w' :=
  (rgap_any T M n p w).mono fun _ _ ⟨h1, h2⟩ => ⟨by rw [h1, gapR_in hw a b c d], h2⟩

set_option maxHeartbeats 4000000 in
theorem rstep_in (T M m th la pe no te t : Int) (w : World) (hv : svld T M m th la pe no te = true) (ht : isTime t = true) (hlt : m ≠ 0 → la < t) : Calls Try.prog 20 #[wv T M, sv m th la pe no te, .int .i64 t] w fun e w' => e = .returned (stepS T M m th la no te t).val ∧ Below w.heap.size w w' := by
  obtain ⟨hw, hc⟩ := svld_cases hv
  obtain ⟨h1, h2, h3, h4, _⟩ := wvld_bd hw
  obtain ⟨t0, t1⟩ := time_bd ht
  have HW := Lib.hid hw
  clear hv ht
  rcases hc with ⟨rfl, rfl, rfl, rfl, rfl, rfl⟩ | ⟨rfl, rfl, l0, l1, hc⟩ | ⟨rfl, th0, th1, l0, l1, p0, p1, n0, n1, rfl⟩
  · have hs : stepS T M 0 0 0 0 0 t = ⟨1, 0, t, 0, 0, 0⟩ := rfl
    rw [hs]; unfold SyS.val; clear hs hlt
    go_enter Try.func20, Try.ntmps20
    go_wp2
    refine bodyPost_ret (v := sv 1 0 t 0 0 0) (by simp [results, Try.results20, go_sem, *]) rfl ?_
    refine ⟨rfl, ?_⟩
    repeat' (first | (with_reducible refine Below.setCell ?_ ?_ _) | (with_reducible refine Below.alloc ?_ ?_ _) | (with_reducible refine Below.drew ?_) | (with_reducible exact Below.refl _ _) | (with_reducible assumption) | (with_reducible refine Below.trans ?_ (Below.mono (by assumption) ?_)) | omega | (simp <;> omega))
  · have hlt := hlt (by decide)
    have hn : 0 ≤ no ∧ no ≤ 1099511627776 := by omega
    obtain ⟨n0, n1⟩ := hn
    by_cases h2 : te = 2
    · subst h2
      have n2 : 1 ≤ no := by omega
      by_cases hg : gapB M no (t - la) = true
      · have hs : stepS T M 1 0 la no 2 t = ⟨2, 0, t, t - la, (t - la) / (M + 1), 0⟩ := by simp [stepS, hg]
        rw [hs]; unfold SyS.val; clear hs hc
        go_enter Try.func20, Try.ntmps20
        go_wp2_with (go_at_call 22; refine (rgap_in _ _ _ _ _ HW.out (by omega) (by omega) (by omega) (by omega)).mono ?_; rintro e w1 ⟨rfl, hbw1⟩; obtain ⟨hcw1, hfw1⟩ := bcell hbw1; have hzw1 := hbw1.size; (try simp at hzw1); (try have hs0w1 : w.heap.size < w1.heap.size := by omega); (try have hs1w1 : w.heap.size + 1 < w1.heap.size := by omega); (try have hs2w1 : w.heap.size + 1 + 1 < w1.heap.size := by omega); (try have hs3w1 : w.heap.size + 1 + 1 + 1 < w1.heap.size := by omega); (try have hs_w1_w1 : w1.heap.size < w1.heap.size := by omega); (try have hs_w1p_w1 : w1.heap.size + 1 < w1.heap.size := by omega); (try have hs_w2_w1 : w2.heap.size < w1.heap.size := by omega); (try have hs_w2p_w1 : w2.heap.size + 1 < w1.heap.size := by omega); (try have hs_w3_w1 : w3.heap.size < w1.heap.size := by omega); (try have hs_w3p_w1 : w3.heap.size + 1 < w1.heap.size := by omega); (try have hs_w4_w1 : w4.heap.size < w1.heap.size := by omega); (try have hs_w4p_w1 : w4.heap.size + 1 < w1.heap.size := by omega); (try have hs_w5_w1 : w5.heap.size < w1.heap.size := by omega); (try have hs_w5p_w1 : w5.heap.size + 1 < w1.heap.size := by omega); (try have hs_w6_w1 : w6.heap.size < w1.heap.size := by omega); (try have hs_w6p_w1 : w6.heap.size + 1 < w1.heap.size := by omega))
        refine bodyPost_ret (v := sv 2 0 t (t - la) ((t - la) / (M + 1)) 0) (by simp [results, Try.results20, go_sem, *]) rfl ?_
        refine ⟨rfl, ?_⟩
        repeat' (first | (with_reducible refine Below.setCell ?_ ?_ _) | (with_reducible refine Below.alloc ?_ ?_ _) | (with_reducible refine Below.drew ?_) | (with_reducible exact Below.refl _ _) | (with_reducible assumption) | (with_reducible refine Below.trans ?_ (Below.mono (by assumption) ?_)) | omega | (simp <;> omega))
      · have hg' : gapB M no (t - la) = false := by simpa using hg
        by_cases hf : fitsB (t - la) no = true
        · have hs : stepS T M 1 0 la no 2 t = ⟨1, 0, t, t - la, t - la, 2⟩ := by simp [stepS, hg', hf]
          rw [hs]; unfold SyS.val; clear hs hc hg
          go_enter Try.func20, Try.ntmps20
          go_wp2_with (first
            | (go_at_call 22; refine (rgap_in _ _ _ _ _ HW.out (by omega) (by omega) (by omega) (by omega)).mono ?_; rintro e w1 ⟨rfl, hbw1⟩; obtain ⟨hcw1, hfw1⟩ := bcell hbw1; have hzw1 := hbw1.size; (try simp at hzw1); (try have hs0w1 : w.heap.size < w1.heap.size := by omega); (try have hs1w1 : w.heap.size + 1 < w1.heap.size := by omega); (try have hs2w1 : w.heap.size + 1 + 1 < w1.heap.size := by omega); (try have hs3w1 : w.heap.size + 1 + 1 + 1 < w1.heap.size := by omega); (try have hs_w1_w1 : w1.heap.size < w1.heap.size := by omega); (try have hs_w1p_w1 : w1.heap.size + 1 < w1.heap.size := by omega); (try have hs_w2_w1 : w2.heap.size < w1.heap.size := by omega); (try have hs_w2p_w1 : w2.heap.size + 1 < w1.heap.size := by omega); (try have hs_w3_w1 : w3.heap.size < w1.heap.size := by omega); (try have hs_w3p_w1 : w3.heap.size + 1 < w1.heap.size := by omega); (try have hs_w4_w1 : w4.heap.size < w1.heap.size := by omega); (try have hs_w4p_w1 : w4.heap.size + 1 < w1.heap.size := by omega); (try have hs_w5_w1 : w5.heap.size < w1.heap.size := by omega); (try have hs_w5p_w1 : w5.heap.size + 1 < w1.heap.size := by omega); (try have hs_w6_w1 : w6.heap.size < w1.heap.size := by omega); (try have hs_w6p_w1 : w6.heap.size + 1 < w1.heap.size := by omega))
            | (go_at_call 36; refine (rfits_any _ _ _ (by omega) (by omega) (by omega) (by omega)).mono ?_; rintro e w1 ⟨rfl, rfl⟩))
          refine bodyPost_ret (v := sv 1 0 t (t - la) (t - la) 2) (by simp [results, Try.results20, go_sem, *]) rfl ?_
          refine ⟨rfl, ?_⟩
          repeat' (first | (with_reducible refine Below.setCell ?_ ?_ _) | (with_reducible refine Below.alloc ?_ ?_ _) | (with_reducible refine Below.drew ?_) | (with_reducible exact Below.refl _ _) | (with_reducible assumption) | (with_reducible refine Below.trans ?_ (Below.mono (by assumption) ?_)) | omega | (simp <;> omega))
        · have hf' : fitsB (t - la) no = false := by simpa using hf
          have hs : stepS T M 1 0 la no 2 t = ⟨1, 0, t, t - la, t - la, 1⟩ := by simp [stepS, hg', hf']
          rw [hs]; unfold SyS.val; clear hs hc hg hf
          go_enter Try.func20, Try.ntmps20
          go_wp2_with (first
            | (go_at_call 22; refine (rgap_in _ _ _ _ _ HW.out (by omega) (by omega) (by omega) (by omega)).mono ?_; rintro e w1 ⟨rfl, hbw1⟩; obtain ⟨hcw1, hfw1⟩ := bcell hbw1; have hzw1 := hbw1.size; (try simp at hzw1); (try have hs0w1 : w.heap.size < w1.heap.size := by omega); (try have hs1w1 : w.heap.size + 1 < w1.heap.size := by omega); (try have hs2w1 : w.heap.size + 1 + 1 < w1.heap.size := by omega); (try have hs3w1 : w.heap.size + 1 + 1 + 1 < w1.heap.size := by omega); (try have hs_w1_w1 : w1.heap.size < w1.heap.size := by omega); (try have hs_w1p_w1 : w1.heap.size + 1 < w1.heap.size := by omega); (try have hs_w2_w1 : w2.heap.size < w1.heap.size := by omega); (try have hs_w2p_w1 : w2.heap.size + 1 < w1.heap.size := by omega); (try have hs_w3_w1 : w3.heap.size < w1.heap.size := by omega); (try have hs_w3p_w1 : w3.heap.size + 1 < w1.heap.size := by omega); (try have hs_w4_w1 : w4.heap.size < w1.heap.size := by omega); (try have hs_w4p_w1 : w4.heap.size + 1 < w1.heap.size := by omega); (try have hs_w5_w1 : w5.heap.size < w1.heap.size := by omega); (try have hs_w5p_w1 : w5.heap.size + 1 < w1.heap.size := by omega); (try have hs_w6_w1 : w6.heap.size < w1.heap.size := by omega); (try have hs_w6p_w1 : w6.heap.size + 1 < w1.heap.size := by omega))
            | (go_at_call 36; refine (rfits_any _ _ _ (by omega) (by omega) (by omega) (by omega)).mono ?_; rintro e w1 ⟨rfl, rfl⟩))
          refine bodyPost_ret (v := sv 1 0 t (t - la) (t - la) 1) (by simp [results, Try.results20, go_sem, *]) rfl ?_
          refine ⟨rfl, ?_⟩
          repeat' (first | (with_reducible refine Below.setCell ?_ ?_ _) | (with_reducible refine Below.alloc ?_ ?_ _) | (with_reducible refine Below.drew ?_) | (with_reducible exact Below.refl _ _) | (with_reducible assumption) | (with_reducible refine Below.trans ?_ (Below.mono (by assumption) ?_)) | omega | (simp <;> omega))
    · have e2 : (te == 2) = false := by rw [beq_eq_false_iff_ne]; exact h2
      by_cases h0 : te = 0
      · subst h0
        have hs : stepS T M 1 0 la no 0 t = ⟨1, 0, t, t - la, t - la, 1⟩ := by simp [stepS]
        rw [hs]; unfold SyS.val; clear hs hc
        go_enter Try.func20, Try.ntmps20
        go_wp2
        refine bodyPost_ret (v := sv 1 0 t (t - la) (t - la) 1) (by simp [results, Try.results20, go_sem, *]) rfl ?_
        refine ⟨rfl, ?_⟩
        repeat' (first | (with_reducible refine Below.setCell ?_ ?_ _) | (with_reducible refine Below.alloc ?_ ?_ _) | (with_reducible refine Below.drew ?_) | (with_reducible exact Below.refl _ _) | (with_reducible assumption) | (with_reducible refine Below.trans ?_ (Below.mono (by assumption) ?_)) | omega | (simp <;> omega))
      · obtain rfl : te = 1 := by omega
        by_cases hf : fitsB (t - la) no = true
        · have hs : stepS T M 1 0 la no 1 t = ⟨1, 0, t, t - la, t - la, 2⟩ := by simp [stepS, hf]
          rw [hs]; unfold SyS.val; clear hs hc
          go_enter Try.func20, Try.ntmps20
          go_wp2_with (go_at_call 36; refine (rfits_any _ _ _ (by omega) (by omega) (by omega) (by omega)).mono ?_; rintro e w1 ⟨rfl, rfl⟩)
          refine bodyPost_ret (v := sv 1 0 t (t - la) (t - la) 2) (by simp [results, Try.results20, go_sem, *]) rfl ?_
          refine ⟨rfl, ?_⟩
          repeat' (first | (with_reducible refine Below.setCell ?_ ?_ _) | (with_reducible refine Below.alloc ?_ ?_ _) | (with_reducible refine Below.drew ?_) | (with_reducible exact Below.refl _ _) | (with_reducible assumption) | (with_reducible refine Below.trans ?_ (Below.mono (by assumption) ?_)) | omega | (simp <;> omega))
        · have hf' : fitsB (t - la) no = false := by simpa using hf
          have hs : stepS T M 1 0 la no 1 t = ⟨1, 0, t, t - la, t - la, 1⟩ := by simp [stepS, hf']
          rw [hs]; unfold SyS.val; clear hs hc hf
          go_enter Try.func20, Try.ntmps20
          go_wp2_with (go_at_call 36; refine (rfits_any _ _ _ (by omega) (by omega) (by omega) (by omega)).mono ?_; rintro e w1 ⟨rfl, rfl⟩)
          refine bodyPost_ret (v := sv 1 0 t (t - la) (t - la) 1) (by simp [results, Try.results20, go_sem, *]) rfl ?_
          refine ⟨rfl, ?_⟩
          repeat' (first | (with_reducible refine Below.setCell ?_ ?_ _) | (with_reducible refine Below.alloc ?_ ?_ _) | (with_reducible refine Below.drew ?_) | (with_reducible exact Below.refl _ _) | (with_reducible assumption) | (with_reducible refine Below.trans ?_ (Below.mono (by assumption) ?_)) | omega | (simp <;> omega))
  · have hlt := hlt (by decide)
    obtain ⟨x0, x1⟩ := expc_bd (th := th) HW.out (show 0 ≤ no by omega) (show no ≤ 1099511627776 by omega)
    by_cases hf : fitsB (t - la) (expc T M th no) = true
    · by_cases hl : th = T - M - 1
      · have e9 : (th == T - M - 1) = true := by simpa using hl
        have hs : stepS T M 2 th la no 0 t = ⟨2, 0, t, t - la, (t - la) / (M + 1), 0⟩ := by unfold stepS; rw [if_neg (by decide), if_pos rfl, if_neg (by rw [hf]; decide), if_pos hl]
        rw [hs]; unfold SyS.val; clear hs hl
        go_enter Try.func20, Try.ntmps20
        go_wp2_with (first
          | (go_at_call 37; refine (rexpected_any _ _ _ _ _ _ _ _ _ HW.out (by omega) (by omega)).mono ?_; rintro e w1 ⟨rfl, hbw1⟩; obtain ⟨hcw1, hfw1⟩ := bcell hbw1; have hzw1 := hbw1.size; (try simp at hzw1); (try have hs0w1 : w.heap.size < w1.heap.size := by omega); (try have hs1w1 : w.heap.size + 1 < w1.heap.size := by omega); (try have hs2w1 : w.heap.size + 1 + 1 < w1.heap.size := by omega); (try have hs3w1 : w.heap.size + 1 + 1 + 1 < w1.heap.size := by omega); (try have hs_w1_w1 : w1.heap.size < w1.heap.size := by omega); (try have hs_w1p_w1 : w1.heap.size + 1 < w1.heap.size := by omega); (try have hs_w2_w1 : w2.heap.size < w1.heap.size := by omega); (try have hs_w2p_w1 : w2.heap.size + 1 < w1.heap.size := by omega); (try have hs_w3_w1 : w3.heap.size < w1.heap.size := by omega); (try have hs_w3p_w1 : w3.heap.size + 1 < w1.heap.size := by omega); (try have hs_w4_w1 : w4.heap.size < w1.heap.size := by omega); (try have hs_w4p_w1 : w4.heap.size + 1 < w1.heap.size := by omega); (try have hs_w5_w1 : w5.heap.size < w1.heap.size := by omega); (try have hs_w5p_w1 : w5.heap.size + 1 < w1.heap.size := by omega); (try have hs_w6_w1 : w6.heap.size < w1.heap.size := by omega); (try have hs_w6p_w1 : w6.heap.size + 1 < w1.heap.size := by omega))
          | (go_at_call 36; refine (rfits_any _ _ _ (by omega) (by omega) (by omega) (by omega)).mono ?_; rintro e w1 ⟨rfl, rfl⟩))
        have k0 := cell_regrown (w := w1) (a := ⟨w.heap.size, 0, none⟩) (v := .int .i64 T) (by rw [hcw1 _ _ (by simp <;> omega)]; (try go_simp))
        have k1 := cell_regrown (w := w1) (a := ⟨w.heap.size, 1, none⟩) (v := .int .i64 M) (by rw [hcw1 _ _ (by simp <;> omega)]; (try go_simp))
        have q1 := cell_regrown (w := w1) (a := ⟨w.heap.size + 1, 1, none⟩) (v := .int .i64 th) (by rw [hcw1 _ _ (by simp <;> omega)]; (try go_simp))
        refine wp_region_quiet_below (by kernel_rfl) (by kernel_rfl) ?_
        repeat (any_goals (first | go_big_quiet_step ((exact Calls.regrown_of (rwteeth_ok _ _ _ HW.out))) | quiet_step ((exact Calls.regrown_of (rwteeth_ok _ _ _ HW.out)))))
        refine wpQuiet_nil ?_
        intro _ hw'
        obtain ⟨⟨dq, osq⟩, hw''⟩ := hw'
        subst hw''
        have hbw2 := below_regrown w1 dq osq
        generalize grow (redrawn w1 dq) osq = w2 at *
        obtain ⟨hcw2, hfw2⟩ := bcell hbw2
        have hzw2 := hbw2.size
        (try have hs0w2 : w.heap.size < w2.heap.size := by omega); (try have hs1w2 : w.heap.size + 1 < w2.heap.size := by omega); (try have hs2w2 : w.heap.size + 1 + 1 < w2.heap.size := by omega); (try have hs3w2 : w.heap.size + 1 + 1 + 1 < w2.heap.size := by omega); (try have hs_w1_w2 : w1.heap.size < w2.heap.size := by omega); (try have hs_w1p_w2 : w1.heap.size + 1 < w2.heap.size := by omega); (try have hs_w2_w2 : w2.heap.size < w2.heap.size := by omega); (try have hs_w2p_w2 : w2.heap.size + 1 < w2.heap.size := by omega); (try have hs_w3_w2 : w3.heap.size < w2.heap.size := by omega); (try have hs_w3p_w2 : w3.heap.size + 1 < w2.heap.size := by omega); (try have hs_w4_w2 : w4.heap.size < w2.heap.size := by omega); (try have hs_w4p_w2 : w4.heap.size + 1 < w2.heap.size := by omega); (try have hs_w5_w2 : w5.heap.size < w2.heap.size := by omega); (try have hs_w5p_w2 : w5.heap.size + 1 < w2.heap.size := by omega); (try have hs_w6_w2 : w6.heap.size < w2.heap.size := by omega); (try have hs_w6p_w2 : w6.heap.size + 1 < w2.heap.size := by omega)
        clear k0 k1 q1
        go_wp2
        refine bodyPost_ret (v := sv 2 0 t (t - la) ((t - la) / (M + 1)) 0) (by simp [results, Try.results20, go_sem, *]) rfl ?_
        refine ⟨rfl, ?_⟩
        repeat' (first | (with_reducible refine Below.setCell ?_ ?_ _) | (with_reducible refine Below.alloc ?_ ?_ _) | (with_reducible refine Below.drew ?_) | (with_reducible exact Below.refl _ _) | (with_reducible assumption) | (with_reducible refine Below.trans ?_ (Below.mono (by assumption) ?_)) | omega | (simp <;> omega))
      · have e9 : (th == T - M - 1) = false := by simpa using hl
        have hs : stepS T M 2 th la no 0 t = ⟨2, th + 1, t, t - la, t - la, 0⟩ := by unfold stepS; rw [if_neg (by decide), if_pos rfl, if_neg (by rw [hf]; decide), if_neg hl]
        rw [hs]; unfold SyS.val; clear hs hl
        go_enter Try.func20, Try.ntmps20
        go_wp2_with (first
          | (go_at_call 37; refine (rexpected_any _ _ _ _ _ _ _ _ _ HW.out (by omega) (by omega)).mono ?_; rintro e w1 ⟨rfl, hbw1⟩; obtain ⟨hcw1, hfw1⟩ := bcell hbw1; have hzw1 := hbw1.size; (try simp at hzw1); (try have hs0w1 : w.heap.size < w1.heap.size := by omega); (try have hs1w1 : w.heap.size + 1 < w1.heap.size := by omega); (try have hs2w1 : w.heap.size + 1 + 1 < w1.heap.size := by omega); (try have hs3w1 : w.heap.size + 1 + 1 + 1 < w1.heap.size := by omega); (try have hs_w1_w1 : w1.heap.size < w1.heap.size := by omega); (try have hs_w1p_w1 : w1.heap.size + 1 < w1.heap.size := by omega); (try have hs_w2_w1 : w2.heap.size < w1.heap.size := by omega); (try have hs_w2p_w1 : w2.heap.size + 1 < w1.heap.size := by omega); (try have hs_w3_w1 : w3.heap.size < w1.heap.size := by omega); (try have hs_w3p_w1 : w3.heap.size + 1 < w1.heap.size := by omega); (try have hs_w4_w1 : w4.heap.size < w1.heap.size := by omega); (try have hs_w4p_w1 : w4.heap.size + 1 < w1.heap.size := by omega); (try have hs_w5_w1 : w5.heap.size < w1.heap.size := by omega); (try have hs_w5p_w1 : w5.heap.size + 1 < w1.heap.size := by omega); (try have hs_w6_w1 : w6.heap.size < w1.heap.size := by omega); (try have hs_w6p_w1 : w6.heap.size + 1 < w1.heap.size := by omega))
          | (go_at_call 36; refine (rfits_any _ _ _ (by omega) (by omega) (by omega) (by omega)).mono ?_; rintro e w1 ⟨rfl, rfl⟩))
        have k0 := cell_regrown (w := w1) (a := ⟨w.heap.size, 0, none⟩) (v := .int .i64 T) (by rw [hcw1 _ _ (by simp <;> omega)]; (try go_simp))
        have k1 := cell_regrown (w := w1) (a := ⟨w.heap.size, 1, none⟩) (v := .int .i64 M) (by rw [hcw1 _ _ (by simp <;> omega)]; (try go_simp))
        have q1 := cell_regrown (w := w1) (a := ⟨w.heap.size + 1, 1, none⟩) (v := .int .i64 th) (by rw [hcw1 _ _ (by simp <;> omega)]; (try go_simp))
        refine wp_region_quiet_below (by kernel_rfl) (by kernel_rfl) ?_
        repeat (any_goals (first | go_big_quiet_step ((exact Calls.regrown_of (rwteeth_ok _ _ _ HW.out))) | quiet_step ((exact Calls.regrown_of (rwteeth_ok _ _ _ HW.out)))))
        refine wpQuiet_nil ?_
        intro _ hw'
        obtain ⟨⟨dq, osq⟩, hw''⟩ := hw'
        subst hw''
        have hbw2 := below_regrown w1 dq osq
        generalize grow (redrawn w1 dq) osq = w2 at *
        obtain ⟨hcw2, hfw2⟩ := bcell hbw2
        have hzw2 := hbw2.size
        (try have hs0w2 : w.heap.size < w2.heap.size := by omega); (try have hs1w2 : w.heap.size + 1 < w2.heap.size := by omega); (try have hs2w2 : w.heap.size + 1 + 1 < w2.heap.size := by omega); (try have hs3w2 : w.heap.size + 1 + 1 + 1 < w2.heap.size := by omega); (try have hs_w1_w2 : w1.heap.size < w2.heap.size := by omega); (try have hs_w1p_w2 : w1.heap.size + 1 < w2.heap.size := by omega); (try have hs_w2_w2 : w2.heap.size < w2.heap.size := by omega); (try have hs_w2p_w2 : w2.heap.size + 1 < w2.heap.size := by omega); (try have hs_w3_w2 : w3.heap.size < w2.heap.size := by omega); (try have hs_w3p_w2 : w3.heap.size + 1 < w2.heap.size := by omega); (try have hs_w4_w2 : w4.heap.size < w2.heap.size := by omega); (try have hs_w4p_w2 : w4.heap.size + 1 < w2.heap.size := by omega); (try have hs_w5_w2 : w5.heap.size < w2.heap.size := by omega); (try have hs_w5p_w2 : w5.heap.size + 1 < w2.heap.size := by omega); (try have hs_w6_w2 : w6.heap.size < w2.heap.size := by omega); (try have hs_w6p_w2 : w6.heap.size + 1 < w2.heap.size := by omega)
        clear k0 k1 q1
        go_wp2
        refine bodyPost_ret (v := sv 2 (th + 1) t (t - la) (t - la) 0) (by simp [results, Try.results20, go_sem, *]) rfl ?_
        refine ⟨rfl, ?_⟩
        repeat' (first | (with_reducible refine Below.setCell ?_ ?_ _) | (with_reducible refine Below.alloc ?_ ?_ _) | (with_reducible refine Below.drew ?_) | (with_reducible exact Below.refl _ _) | (with_reducible assumption) | (with_reducible refine Below.trans ?_ (Below.mono (by assumption) ?_)) | omega | (simp <;> omega))
    · have hf' : fitsB (t - la) (expc T M th no) = false := by simpa using hf
      have hs : stepS T M 2 th la no 0 t = ⟨0, 0, 0, 0, 0, 0⟩ := by unfold stepS; rw [if_neg (by decide), if_pos rfl, if_pos hf']
      rw [hs]; unfold SyS.val; clear hs hf
      go_enter Try.func20, Try.ntmps20
      go_wp2_with (first
        | (go_at_call 37; refine (rexpected_any _ _ _ _ _ _ _ _ _ HW.out (by omega) (by omega)).mono ?_; rintro e w1 ⟨rfl, hbw1⟩; obtain ⟨hcw1, hfw1⟩ := bcell hbw1; have hzw1 := hbw1.size; (try simp at hzw1); (try have hs0w1 : w.heap.size < w1.heap.size := by omega); (try have hs1w1 : w.heap.size + 1 < w1.heap.size := by omega); (try have hs2w1 : w.heap.size + 1 + 1 < w1.heap.size := by omega); (try have hs3w1 : w.heap.size + 1 + 1 + 1 < w1.heap.size := by omega); (try have hs_w1_w1 : w1.heap.size < w1.heap.size := by omega); (try have hs_w1p_w1 : w1.heap.size + 1 < w1.heap.size := by omega); (try have hs_w2_w1 : w2.heap.size < w1.heap.size := by omega); (try have hs_w2p_w1 : w2.heap.size + 1 < w1.heap.size := by omega); (try have hs_w3_w1 : w3.heap.size < w1.heap.size := by omega); (try have hs_w3p_w1 : w3.heap.size + 1 < w1.heap.size := by omega); (try have hs_w4_w1 : w4.heap.size < w1.heap.size := by omega); (try have hs_w4p_w1 : w4.heap.size + 1 < w1.heap.size := by omega); (try have hs_w5_w1 : w5.heap.size < w1.heap.size := by omega); (try have hs_w5p_w1 : w5.heap.size + 1 < w1.heap.size := by omega); (try have hs_w6_w1 : w6.heap.size < w1.heap.size := by omega); (try have hs_w6p_w1 : w6.heap.size + 1 < w1.heap.size := by omega))
        | (go_at_call 36; refine (rfits_any _ _ _ (by omega) (by omega) (by omega) (by omega)).mono ?_; rintro e w1 ⟨rfl, rfl⟩))
      refine bodyPost_ret (v := sv 0 0 0 0 0 0) (by simp [results, Try.results20, go_sem, *]) rfl ?_
      refine ⟨rfl, ?_⟩
      repeat' (first | (with_reducible refine Below.setCell ?_ ?_ _) | (with_reducible refine Below.alloc ?_ ?_ _) | (with_reducible refine Below.drew ?_) | (with_reducible exact Below.refl _ _) | (with_reducible assumption) | (with_reducible refine Below.trans ?_ (Below.mono (by assumption) ?_)) | omega | (simp <;> omega))

end Go.Proofs.Ytcaadikffaflnaa
