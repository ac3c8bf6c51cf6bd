/- SyncSteps: New, Valid, and Step are what the reference says, or the specified errors. No conditions. The walk of the law. -/
import Derived.Test.YtcaadikffaflnaaVh
import Derived.Test.YtcaadikffaflnaaV3
namespace Go.Proofs.Ytcaadikffaflnaa
open Go.RowKit Go.Sort

set_option maxHeartbeats 1000000 in
theorem steps_err (T M m th la pe no te t er : Int) (w : World) (he : stepErr T M m th la pe no te t = er) (h0 : er ≠ 0) : Calls Try.prog 5 #[wv T M, sv m th la pe no te, .int .i64 t] w fun e w' => e = .returned (.bool true) ∧ Below w.heap.size w w' := by
  have HE := Lib.hid he
  have H0 := Lib.hid h0
  unfold stepErr at he
  by_cases hv : svld T M m th la pe no te = true
  · rw [if_neg (by rw [hv]; decide)] at he
    by_cases ht : isTime t = true
    · rw [if_neg (by rw [ht]; decide)] at he
      by_cases hl : m ≠ 0 ∧ t ≤ la
      · rw [if_pos hl] at he
        obtain ⟨hl1, hl2⟩ := hl
        have e1 : (m != 0) = true := by rw [bne_iff_ne]; exact hl1
        subst he
        clear h0 hl1
        go_enter Try.func5, Try.ntmps5
        go_wp2_with (first
          | (go_at_call 9; refine (awake_any _).mono ?_; rintro e w1 ⟨rfl, hbw1⟩; obtain ⟨hcw1, hfw1⟩ := bcell hbw1; have hzw1 := hbw1.size; (try simp at hzw1); (try have hs0w1 : w.heap.size < w1.heap.size := by omega); (try have hs1w1 : w.heap.size + 1 < w1.heap.size := by omega); (try have hs2w1 : w.heap.size + 1 + 1 < w1.heap.size := by omega); (try have hs3w1 : w.heap.size + 1 + 1 + 1 < w1.heap.size := by omega); (try have hs_w1_w1 : w1.heap.size < w1.heap.size := by omega); (try have hs_w1p_w1 : w1.heap.size + 1 < w1.heap.size := by omega); (try have hs_w2_w1 : w2.heap.size < w1.heap.size := by omega); (try have hs_w2p_w1 : w2.heap.size + 1 < w1.heap.size := by omega); (try have hs_w3_w1 : w3.heap.size < w1.heap.size := by omega); (try have hs_w3p_w1 : w3.heap.size + 1 < w1.heap.size := by omega); (try have hs_w4_w1 : w4.heap.size < w1.heap.size := by omega); (try have hs_w4p_w1 : w4.heap.size + 1 < w1.heap.size := by omega); (try have hs_w5_w1 : w5.heap.size < w1.heap.size := by omega); (try have hs_w5p_w1 : w5.heap.size + 1 < w1.heap.size := by omega); (try have hs_w6_w1 : w6.heap.size < w1.heap.size := by omega); (try have hs_w6p_w1 : w6.heap.size + 1 < w1.heap.size := by omega))
          | (go_at_call 16; refine (step_err _ _ _ _ _ _ _ _ _ _ _ HE.out H0.out).mono ?_; rintro e w2 ⟨rfl, hbw2⟩; obtain ⟨hcw2, hfw2⟩ := bcell hbw2; have hzw2 := hbw2.size; (try simp at hzw2); (try have hs0w2 : w.heap.size < w2.heap.size := by omega); (try have hs1w2 : w.heap.size + 1 < w2.heap.size := by omega); (try have hs2w2 : w.heap.size + 1 + 1 < w2.heap.size := by omega); (try have hs3w2 : w.heap.size + 1 + 1 + 1 < w2.heap.size := by omega); (try have hs_w1_w2 : w1.heap.size < w2.heap.size := by omega); (try have hs_w1p_w2 : w1.heap.size + 1 < w2.heap.size := by omega); (try have hs_w2_w2 : w2.heap.size < w2.heap.size := by omega); (try have hs_w2p_w2 : w2.heap.size + 1 < w2.heap.size := by omega); (try have hs_w3_w2 : w3.heap.size < w2.heap.size := by omega); (try have hs_w3p_w2 : w3.heap.size + 1 < w2.heap.size := by omega); (try have hs_w4_w2 : w4.heap.size < w2.heap.size := by omega); (try have hs_w4p_w2 : w4.heap.size + 1 < w2.heap.size := by omega); (try have hs_w5_w2 : w5.heap.size < w2.heap.size := by omega); (try have hs_w5p_w2 : w5.heap.size + 1 < w2.heap.size := by omega); (try have hs_w6_w2 : w6.heap.size < w2.heap.size := by omega); (try have hs_w6p_w2 : w6.heap.size + 1 < w2.heap.size := by omega)))
        refine wp_world ?_
        intro w3 hbw3
        obtain ⟨hcw3, hfw3⟩ := bcell hbw3
        have hzw3 := hbw3.size
        (try simp at hzw3)
        (try have hs0w3 : w.heap.size < w3.heap.size := by omega); (try have hs1w3 : w.heap.size + 1 < w3.heap.size := by omega); (try have hs2w3 : w.heap.size + 1 + 1 < w3.heap.size := by omega); (try have hs3w3 : w.heap.size + 1 + 1 + 1 < w3.heap.size := by omega); (try have hs_w1_w3 : w1.heap.size < w3.heap.size := by omega); (try have hs_w1p_w3 : w1.heap.size + 1 < w3.heap.size := by omega); (try have hs_w2_w3 : w2.heap.size < w3.heap.size := by omega); (try have hs_w2p_w3 : w2.heap.size + 1 < w3.heap.size := by omega); (try have hs_w3_w3 : w3.heap.size < w3.heap.size := by omega); (try have hs_w3p_w3 : w3.heap.size + 1 < w3.heap.size := by omega); (try have hs_w4_w3 : w4.heap.size < w3.heap.size := by omega); (try have hs_w4p_w3 : w4.heap.size + 1 < w3.heap.size := by omega); (try have hs_w5_w3 : w5.heap.size < w3.heap.size := by omega); (try have hs_w5p_w3 : w5.heap.size + 1 < w3.heap.size := by omega); (try have hs_w6_w3 : w6.heap.size < w3.heap.size := by omega); (try have hs_w6p_w3 : w6.heap.size + 1 < w3.heap.size := by omega)
        have kT := cell_regrown (w := w3) (a := ⟨w.heap.size, 0, none⟩) (v := .int .i64 T) ((hcw3 (w.heap.size) (0) (by first | omega | (simp <;> omega))).trans (by go_simp))
        have kM := cell_regrown (w := w3) (a := ⟨w.heap.size, 1, none⟩) (v := .int .i64 M) ((hcw3 (w.heap.size) (1) (by first | omega | (simp <;> omega))).trans (by go_simp))
        have kS0 := cell_regrown (w := w3) (a := ⟨w.heap.size + 1, 0, none⟩) (v := .int .i64 m) ((hcw3 (w.heap.size + 1) (0) (by first | omega | (simp <;> omega))).trans (by go_simp))
        have kS1 := cell_regrown (w := w3) (a := ⟨w.heap.size + 1, 1, none⟩) (v := .int .i64 th) ((hcw3 (w.heap.size + 1) (1) (by first | omega | (simp <;> omega))).trans (by go_simp))
        have kS2 := cell_regrown (w := w3) (a := ⟨w.heap.size + 1, 2, none⟩) (v := .int .i64 la) ((hcw3 (w.heap.size + 1) (2) (by first | omega | (simp <;> omega))).trans (by go_simp))
        have kS3 := cell_regrown (w := w3) (a := ⟨w.heap.size + 1, 3, none⟩) (v := .int .i64 pe) ((hcw3 (w.heap.size + 1) (3) (by first | omega | (simp <;> omega))).trans (by go_simp))
        have kS4 := cell_regrown (w := w3) (a := ⟨w.heap.size + 1, 4, none⟩) (v := .int .i64 no) ((hcw3 (w.heap.size + 1) (4) (by first | omega | (simp <;> omega))).trans (by go_simp))
        have kS5 := cell_regrown (w := w3) (a := ⟨w.heap.size + 1, 5, none⟩) (v := .int .i64 te) ((hcw3 (w.heap.size + 1) (5) (by first | omega | (simp <;> omega))).trans (by go_simp))
        refine wp_region_quiet_below (by kernel_rfl) (by kernel_rfl) ?_
        repeat (any_goals (first | go_big_quiet_step ((first | exact Calls.regrown_of (new_any _) | exact Calls.regrown_of (svalid_any _ _ _ _ _ _ _ _ _) | exact Calls.regrown_of (rsvalid_any _ _ _ _ _ _ _ _ _))) | quiet_step ((first | exact Calls.regrown_of (new_any _) | exact Calls.regrown_of (svalid_any _ _ _ _ _ _ _ _ _) | exact Calls.regrown_of (rsvalid_any _ _ _ _ _ _ _ _ _)))))
        refine wpQuiet_nil ?_
        intro _ hw'
        obtain ⟨⟨dq, osq⟩, hw''⟩ := hw'
        subst hw''
        have hbw4 := below_regrown w3 dq osq
        generalize grow (redrawn w3 dq) osq = w4 at *
        obtain ⟨hcw4, hfw4⟩ := bcell hbw4
        have hzw4 := hbw4.size
        (try have hs0w4 : w.heap.size < w4.heap.size := by omega); (try have hs1w4 : w.heap.size + 1 < w4.heap.size := by omega); (try have hs2w4 : w.heap.size + 1 + 1 < w4.heap.size := by omega); (try have hs3w4 : w.heap.size + 1 + 1 + 1 < w4.heap.size := by omega); (try have hs_w1_w4 : w1.heap.size < w4.heap.size := by omega); (try have hs_w1p_w4 : w1.heap.size + 1 < w4.heap.size := by omega); (try have hs_w2_w4 : w2.heap.size < w4.heap.size := by omega); (try have hs_w2p_w4 : w2.heap.size + 1 < w4.heap.size := by omega); (try have hs_w3_w4 : w3.heap.size < w4.heap.size := by omega); (try have hs_w3p_w4 : w3.heap.size + 1 < w4.heap.size := by omega); (try have hs_w4_w4 : w4.heap.size < w4.heap.size := by omega); (try have hs_w4p_w4 : w4.heap.size + 1 < w4.heap.size := by omega); (try have hs_w5_w4 : w5.heap.size < w4.heap.size := by omega); (try have hs_w5p_w4 : w5.heap.size + 1 < w4.heap.size := by omega); (try have hs_w6_w4 : w6.heap.size < w4.heap.size := by omega); (try have hs_w6p_w4 : w6.heap.size + 1 < w4.heap.size := by omega)
        clear kT kM kS0 kS1 kS2 kS3 kS4 kS5
        go_wp2_with (first
          | (go_at_call 18; refine (rsvalid_any _ _ _ _ _ _ _ _ _).mono ?_; rintro e w5 ⟨rfl, hbw5⟩; obtain ⟨hcw5, hfw5⟩ := bcell hbw5; have hzw5 := hbw5.size; (try simp at hzw5); (try have hs0w5 : w.heap.size < w5.heap.size := by omega); (try have hs1w5 : w.heap.size + 1 < w5.heap.size := by omega); (try have hs2w5 : w.heap.size + 1 + 1 < w5.heap.size := by omega); (try have hs3w5 : w.heap.size + 1 + 1 + 1 < w5.heap.size := by omega); (try have hs_w1_w5 : w1.heap.size < w5.heap.size := by omega); (try have hs_w1p_w5 : w1.heap.size + 1 < w5.heap.size := by omega); (try have hs_w2_w5 : w2.heap.size < w5.heap.size := by omega); (try have hs_w2p_w5 : w2.heap.size + 1 < w5.heap.size := by omega); (try have hs_w3_w5 : w3.heap.size < w5.heap.size := by omega); (try have hs_w3p_w5 : w3.heap.size + 1 < w5.heap.size := by omega); (try have hs_w4_w5 : w4.heap.size < w5.heap.size := by omega); (try have hs_w4p_w5 : w4.heap.size + 1 < w5.heap.size := by omega); (try have hs_w5_w5 : w5.heap.size < w5.heap.size := by omega); (try have hs_w5p_w5 : w5.heap.size + 1 < w5.heap.size := by omega); (try have hs_w6_w5 : w6.heap.size < w5.heap.size := by omega); (try have hs_w6p_w5 : w6.heap.size + 1 < w5.heap.size := by omega))
          | (go_at_call 19; refine (rtime_any _ _).mono ?_; rintro e w1 ⟨rfl, rfl⟩))
        go_ret
        refine ⟨rfl, ?_⟩
        repeat' (first | (with_reducible refine Below.setCell ?_ ?_ _) | (with_reducible refine Below.alloc ?_ ?_ _) | (with_reducible refine Below.drew ?_) | (with_reducible exact Below.refl _ _) | (with_reducible assumption) | (with_reducible refine Below.trans ?_ (Below.mono (by assumption) ?_)) | omega | (simp <;> omega))
      · rw [if_neg hl] at he
        exact absurd he.symm h0
    · have ht' : isTime t = false := by simpa using ht
      rw [if_pos ht'] at he
      subst he
      clear ht h0
      go_enter Try.func5, Try.ntmps5
      go_wp2_with (first
        | (go_at_call 9; refine (awake_any _).mono ?_; rintro e w1 ⟨rfl, hbw1⟩; obtain ⟨hcw1, hfw1⟩ := bcell hbw1; have hzw1 := hbw1.size; (try simp at hzw1); (try have hs0w1 : w.heap.size < w1.heap.size := by omega); (try have hs1w1 : w.heap.size + 1 < w1.heap.size := by omega); (try have hs2w1 : w.heap.size + 1 + 1 < w1.heap.size := by omega); (try have hs3w1 : w.heap.size + 1 + 1 + 1 < w1.heap.size := by omega); (try have hs_w1_w1 : w1.heap.size < w1.heap.size := by omega); (try have hs_w1p_w1 : w1.heap.size + 1 < w1.heap.size := by omega); (try have hs_w2_w1 : w2.heap.size < w1.heap.size := by omega); (try have hs_w2p_w1 : w2.heap.size + 1 < w1.heap.size := by omega); (try have hs_w3_w1 : w3.heap.size < w1.heap.size := by omega); (try have hs_w3p_w1 : w3.heap.size + 1 < w1.heap.size := by omega); (try have hs_w4_w1 : w4.heap.size < w1.heap.size := by omega); (try have hs_w4p_w1 : w4.heap.size + 1 < w1.heap.size := by omega); (try have hs_w5_w1 : w5.heap.size < w1.heap.size := by omega); (try have hs_w5p_w1 : w5.heap.size + 1 < w1.heap.size := by omega); (try have hs_w6_w1 : w6.heap.size < w1.heap.size := by omega); (try have hs_w6p_w1 : w6.heap.size + 1 < w1.heap.size := by omega))
        | (go_at_call 16; refine (step_err _ _ _ _ _ _ _ _ _ _ _ HE.out H0.out).mono ?_; rintro e w2 ⟨rfl, hbw2⟩; obtain ⟨hcw2, hfw2⟩ := bcell hbw2; have hzw2 := hbw2.size; (try simp at hzw2); (try have hs0w2 : w.heap.size < w2.heap.size := by omega); (try have hs1w2 : w.heap.size + 1 < w2.heap.size := by omega); (try have hs2w2 : w.heap.size + 1 + 1 < w2.heap.size := by omega); (try have hs3w2 : w.heap.size + 1 + 1 + 1 < w2.heap.size := by omega); (try have hs_w1_w2 : w1.heap.size < w2.heap.size := by omega); (try have hs_w1p_w2 : w1.heap.size + 1 < w2.heap.size := by omega); (try have hs_w2_w2 : w2.heap.size < w2.heap.size := by omega); (try have hs_w2p_w2 : w2.heap.size + 1 < w2.heap.size := by omega); (try have hs_w3_w2 : w3.heap.size < w2.heap.size := by omega); (try have hs_w3p_w2 : w3.heap.size + 1 < w2.heap.size := by omega); (try have hs_w4_w2 : w4.heap.size < w2.heap.size := by omega); (try have hs_w4p_w2 : w4.heap.size + 1 < w2.heap.size := by omega); (try have hs_w5_w2 : w5.heap.size < w2.heap.size := by omega); (try have hs_w5p_w2 : w5.heap.size + 1 < w2.heap.size := by omega); (try have hs_w6_w2 : w6.heap.size < w2.heap.size := by omega); (try have hs_w6p_w2 : w6.heap.size + 1 < w2.heap.size := by omega)))
      refine wp_world ?_
      intro w3 hbw3
      obtain ⟨hcw3, hfw3⟩ := bcell hbw3
      have hzw3 := hbw3.size
      (try simp at hzw3)
      (try have hs0w3 : w.heap.size < w3.heap.size := by omega); (try have hs1w3 : w.heap.size + 1 < w3.heap.size := by omega); (try have hs2w3 : w.heap.size + 1 + 1 < w3.heap.size := by omega); (try have hs3w3 : w.heap.size + 1 + 1 + 1 < w3.heap.size := by omega); (try have hs_w1_w3 : w1.heap.size < w3.heap.size := by omega); (try have hs_w1p_w3 : w1.heap.size + 1 < w3.heap.size := by omega); (try have hs_w2_w3 : w2.heap.size < w3.heap.size := by omega); (try have hs_w2p_w3 : w2.heap.size + 1 < w3.heap.size := by omega); (try have hs_w3_w3 : w3.heap.size < w3.heap.size := by omega); (try have hs_w3p_w3 : w3.heap.size + 1 < w3.heap.size := by omega); (try have hs_w4_w3 : w4.heap.size < w3.heap.size := by omega); (try have hs_w4p_w3 : w4.heap.size + 1 < w3.heap.size := by omega); (try have hs_w5_w3 : w5.heap.size < w3.heap.size := by omega); (try have hs_w5p_w3 : w5.heap.size + 1 < w3.heap.size := by omega); (try have hs_w6_w3 : w6.heap.size < w3.heap.size := by omega); (try have hs_w6p_w3 : w6.heap.size + 1 < w3.heap.size := by omega)
      have kT := cell_regrown (w := w3) (a := ⟨w.heap.size, 0, none⟩) (v := .int .i64 T) ((hcw3 (w.heap.size) (0) (by first | omega | (simp <;> omega))).trans (by go_simp))
      have kM := cell_regrown (w := w3) (a := ⟨w.heap.size, 1, none⟩) (v := .int .i64 M) ((hcw3 (w.heap.size) (1) (by first | omega | (simp <;> omega))).trans (by go_simp))
      have kS0 := cell_regrown (w := w3) (a := ⟨w.heap.size + 1, 0, none⟩) (v := .int .i64 m) ((hcw3 (w.heap.size + 1) (0) (by first | omega | (simp <;> omega))).trans (by go_simp))
      have kS1 := cell_regrown (w := w3) (a := ⟨w.heap.size + 1, 1, none⟩) (v := .int .i64 th) ((hcw3 (w.heap.size + 1) (1) (by first | omega | (simp <;> omega))).trans (by go_simp))
      have kS2 := cell_regrown (w := w3) (a := ⟨w.heap.size + 1, 2, none⟩) (v := .int .i64 la) ((hcw3 (w.heap.size + 1) (2) (by first | omega | (simp <;> omega))).trans (by go_simp))
      have kS3 := cell_regrown (w := w3) (a := ⟨w.heap.size + 1, 3, none⟩) (v := .int .i64 pe) ((hcw3 (w.heap.size + 1) (3) (by first | omega | (simp <;> omega))).trans (by go_simp))
      have kS4 := cell_regrown (w := w3) (a := ⟨w.heap.size + 1, 4, none⟩) (v := .int .i64 no) ((hcw3 (w.heap.size + 1) (4) (by first | omega | (simp <;> omega))).trans (by go_simp))
      have kS5 := cell_regrown (w := w3) (a := ⟨w.heap.size + 1, 5, none⟩) (v := .int .i64 te) ((hcw3 (w.heap.size + 1) (5) (by first | omega | (simp <;> omega))).trans (by go_simp))
      refine wp_region_quiet_below (by kernel_rfl) (by kernel_rfl) ?_
      repeat (any_goals (first | go_big_quiet_step ((first | exact Calls.regrown_of (new_any _) | exact Calls.regrown_of (svalid_any _ _ _ _ _ _ _ _ _) | exact Calls.regrown_of (rsvalid_any _ _ _ _ _ _ _ _ _))) | quiet_step ((first | exact Calls.regrown_of (new_any _) | exact Calls.regrown_of (svalid_any _ _ _ _ _ _ _ _ _) | exact Calls.regrown_of (rsvalid_any _ _ _ _ _ _ _ _ _)))))
      refine wpQuiet_nil ?_
      intro _ hw'
      obtain ⟨⟨dq, osq⟩, hw''⟩ := hw'
      subst hw''
      have hbw4 := below_regrown w3 dq osq
      generalize grow (redrawn w3 dq) osq = w4 at *
      obtain ⟨hcw4, hfw4⟩ := bcell hbw4
      have hzw4 := hbw4.size
      (try have hs0w4 : w.heap.size < w4.heap.size := by omega); (try have hs1w4 : w.heap.size + 1 < w4.heap.size := by omega); (try have hs2w4 : w.heap.size + 1 + 1 < w4.heap.size := by omega); (try have hs3w4 : w.heap.size + 1 + 1 + 1 < w4.heap.size := by omega); (try have hs_w1_w4 : w1.heap.size < w4.heap.size := by omega); (try have hs_w1p_w4 : w1.heap.size + 1 < w4.heap.size := by omega); (try have hs_w2_w4 : w2.heap.size < w4.heap.size := by omega); (try have hs_w2p_w4 : w2.heap.size + 1 < w4.heap.size := by omega); (try have hs_w3_w4 : w3.heap.size < w4.heap.size := by omega); (try have hs_w3p_w4 : w3.heap.size + 1 < w4.heap.size := by omega); (try have hs_w4_w4 : w4.heap.size < w4.heap.size := by omega); (try have hs_w4p_w4 : w4.heap.size + 1 < w4.heap.size := by omega); (try have hs_w5_w4 : w5.heap.size < w4.heap.size := by omega); (try have hs_w5p_w4 : w5.heap.size + 1 < w4.heap.size := by omega); (try have hs_w6_w4 : w6.heap.size < w4.heap.size := by omega); (try have hs_w6p_w4 : w6.heap.size + 1 < w4.heap.size := by omega)
      clear kT kM kS0 kS1 kS2 kS3 kS4 kS5
      go_wp2_with (first
        | (go_at_call 18; refine (rsvalid_any _ _ _ _ _ _ _ _ _).mono ?_; rintro e w5 ⟨rfl, hbw5⟩; obtain ⟨hcw5, hfw5⟩ := bcell hbw5; have hzw5 := hbw5.size; (try simp at hzw5); (try have hs0w5 : w.heap.size < w5.heap.size := by omega); (try have hs1w5 : w.heap.size + 1 < w5.heap.size := by omega); (try have hs2w5 : w.heap.size + 1 + 1 < w5.heap.size := by omega); (try have hs3w5 : w.heap.size + 1 + 1 + 1 < w5.heap.size := by omega); (try have hs_w1_w5 : w1.heap.size < w5.heap.size := by omega); (try have hs_w1p_w5 : w1.heap.size + 1 < w5.heap.size := by omega); (try have hs_w2_w5 : w2.heap.size < w5.heap.size := by omega); (try have hs_w2p_w5 : w2.heap.size + 1 < w5.heap.size := by omega); (try have hs_w3_w5 : w3.heap.size < w5.heap.size := by omega); (try have hs_w3p_w5 : w3.heap.size + 1 < w5.heap.size := by omega); (try have hs_w4_w5 : w4.heap.size < w5.heap.size := by omega); (try have hs_w4p_w5 : w4.heap.size + 1 < w5.heap.size := by omega); (try have hs_w5_w5 : w5.heap.size < w5.heap.size := by omega); (try have hs_w5p_w5 : w5.heap.size + 1 < w5.heap.size := by omega); (try have hs_w6_w5 : w6.heap.size < w5.heap.size := by omega); (try have hs_w6p_w5 : w6.heap.size + 1 < w5.heap.size := by omega))
        | (go_at_call 19; refine (rtime_any _ _).mono ?_; rintro e w1 ⟨rfl, rfl⟩))
      go_ret
      refine ⟨rfl, ?_⟩
      repeat' (first | (with_reducible refine Below.setCell ?_ ?_ _) | (with_reducible refine Below.alloc ?_ ?_ _) | (with_reducible refine Below.drew ?_) | (with_reducible exact Below.refl _ _) | (with_reducible assumption) | (with_reducible refine Below.trans ?_ (Below.mono (by assumption) ?_)) | omega | (simp <;> omega))
  · have hv' : svld T M m th la pe no te = false := by simpa using hv
    rw [if_pos hv'] at he
    subst he
    clear hv h0
    go_enter Try.func5, Try.ntmps5
    go_wp2_with (first
      | (go_at_call 9; refine (awake_any _).mono ?_; rintro e w1 ⟨rfl, hbw1⟩; obtain ⟨hcw1, hfw1⟩ := bcell hbw1; have hzw1 := hbw1.size; (try simp at hzw1); (try have hs0w1 : w.heap.size < w1.heap.size := by omega); (try have hs1w1 : w.heap.size + 1 < w1.heap.size := by omega); (try have hs2w1 : w.heap.size + 1 + 1 < w1.heap.size := by omega); (try have hs3w1 : w.heap.size + 1 + 1 + 1 < w1.heap.size := by omega); (try have hs_w1_w1 : w1.heap.size < w1.heap.size := by omega); (try have hs_w1p_w1 : w1.heap.size + 1 < w1.heap.size := by omega); (try have hs_w2_w1 : w2.heap.size < w1.heap.size := by omega); (try have hs_w2p_w1 : w2.heap.size + 1 < w1.heap.size := by omega); (try have hs_w3_w1 : w3.heap.size < w1.heap.size := by omega); (try have hs_w3p_w1 : w3.heap.size + 1 < w1.heap.size := by omega); (try have hs_w4_w1 : w4.heap.size < w1.heap.size := by omega); (try have hs_w4p_w1 : w4.heap.size + 1 < w1.heap.size := by omega); (try have hs_w5_w1 : w5.heap.size < w1.heap.size := by omega); (try have hs_w5p_w1 : w5.heap.size + 1 < w1.heap.size := by omega); (try have hs_w6_w1 : w6.heap.size < w1.heap.size := by omega); (try have hs_w6p_w1 : w6.heap.size + 1 < w1.heap.size := by omega))
      | (go_at_call 16; refine (step_err _ _ _ _ _ _ _ _ _ _ _ HE.out H0.out).mono ?_; rintro e w2 ⟨rfl, hbw2⟩; obtain ⟨hcw2, hfw2⟩ := bcell hbw2; have hzw2 := hbw2.size; (try simp at hzw2); (try have hs0w2 : w.heap.size < w2.heap.size := by omega); (try have hs1w2 : w.heap.size + 1 < w2.heap.size := by omega); (try have hs2w2 : w.heap.size + 1 + 1 < w2.heap.size := by omega); (try have hs3w2 : w.heap.size + 1 + 1 + 1 < w2.heap.size := by omega); (try have hs_w1_w2 : w1.heap.size < w2.heap.size := by omega); (try have hs_w1p_w2 : w1.heap.size + 1 < w2.heap.size := by omega); (try have hs_w2_w2 : w2.heap.size < w2.heap.size := by omega); (try have hs_w2p_w2 : w2.heap.size + 1 < w2.heap.size := by omega); (try have hs_w3_w2 : w3.heap.size < w2.heap.size := by omega); (try have hs_w3p_w2 : w3.heap.size + 1 < w2.heap.size := by omega); (try have hs_w4_w2 : w4.heap.size < w2.heap.size := by omega); (try have hs_w4p_w2 : w4.heap.size + 1 < w2.heap.size := by omega); (try have hs_w5_w2 : w5.heap.size < w2.heap.size := by omega); (try have hs_w5p_w2 : w5.heap.size + 1 < w2.heap.size := by omega); (try have hs_w6_w2 : w6.heap.size < w2.heap.size := by omega); (try have hs_w6p_w2 : w6.heap.size + 1 < w2.heap.size := by omega)))
    refine wp_world ?_
    intro w3 hbw3
    obtain ⟨hcw3, hfw3⟩ := bcell hbw3
    have hzw3 := hbw3.size
    (try simp at hzw3)
    (try have hs0w3 : w.heap.size < w3.heap.size := by omega); (try have hs1w3 : w.heap.size + 1 < w3.heap.size := by omega); (try have hs2w3 : w.heap.size + 1 + 1 < w3.heap.size := by omega); (try have hs3w3 : w.heap.size + 1 + 1 + 1 < w3.heap.size := by omega); (try have hs_w1_w3 : w1.heap.size < w3.heap.size := by omega); (try have hs_w1p_w3 : w1.heap.size + 1 < w3.heap.size := by omega); (try have hs_w2_w3 : w2.heap.size < w3.heap.size := by omega); (try have hs_w2p_w3 : w2.heap.size + 1 < w3.heap.size := by omega); (try have hs_w3_w3 : w3.heap.size < w3.heap.size := by omega); (try have hs_w3p_w3 : w3.heap.size + 1 < w3.heap.size := by omega); (try have hs_w4_w3 : w4.heap.size < w3.heap.size := by omega); (try have hs_w4p_w3 : w4.heap.size + 1 < w3.heap.size := by omega); (try have hs_w5_w3 : w5.heap.size < w3.heap.size := by omega); (try have hs_w5p_w3 : w5.heap.size + 1 < w3.heap.size := by omega); (try have hs_w6_w3 : w6.heap.size < w3.heap.size := by omega); (try have hs_w6p_w3 : w6.heap.size + 1 < w3.heap.size := by omega)
    have kT := cell_regrown (w := w3) (a := ⟨w.heap.size, 0, none⟩) (v := .int .i64 T) ((hcw3 (w.heap.size) (0) (by first | omega | (simp <;> omega))).trans (by go_simp))
    have kM := cell_regrown (w := w3) (a := ⟨w.heap.size, 1, none⟩) (v := .int .i64 M) ((hcw3 (w.heap.size) (1) (by first | omega | (simp <;> omega))).trans (by go_simp))
    have kS0 := cell_regrown (w := w3) (a := ⟨w.heap.size + 1, 0, none⟩) (v := .int .i64 m) ((hcw3 (w.heap.size + 1) (0) (by first | omega | (simp <;> omega))).trans (by go_simp))
    have kS1 := cell_regrown (w := w3) (a := ⟨w.heap.size + 1, 1, none⟩) (v := .int .i64 th) ((hcw3 (w.heap.size + 1) (1) (by first | omega | (simp <;> omega))).trans (by go_simp))
    have kS2 := cell_regrown (w := w3) (a := ⟨w.heap.size + 1, 2, none⟩) (v := .int .i64 la) ((hcw3 (w.heap.size + 1) (2) (by first | omega | (simp <;> omega))).trans (by go_simp))
    have kS3 := cell_regrown (w := w3) (a := ⟨w.heap.size + 1, 3, none⟩) (v := .int .i64 pe) ((hcw3 (w.heap.size + 1) (3) (by first | omega | (simp <;> omega))).trans (by go_simp))
    have kS4 := cell_regrown (w := w3) (a := ⟨w.heap.size + 1, 4, none⟩) (v := .int .i64 no) ((hcw3 (w.heap.size + 1) (4) (by first | omega | (simp <;> omega))).trans (by go_simp))
    have kS5 := cell_regrown (w := w3) (a := ⟨w.heap.size + 1, 5, none⟩) (v := .int .i64 te) ((hcw3 (w.heap.size + 1) (5) (by first | omega | (simp <;> omega))).trans (by go_simp))
    refine wp_region_quiet_below (by kernel_rfl) (by kernel_rfl) ?_
    repeat (any_goals (first | go_big_quiet_step ((first | exact Calls.regrown_of (new_any _) | exact Calls.regrown_of (svalid_any _ _ _ _ _ _ _ _ _) | exact Calls.regrown_of (rsvalid_any _ _ _ _ _ _ _ _ _))) | quiet_step ((first | exact Calls.regrown_of (new_any _) | exact Calls.regrown_of (svalid_any _ _ _ _ _ _ _ _ _) | exact Calls.regrown_of (rsvalid_any _ _ _ _ _ _ _ _ _)))))
    refine wpQuiet_nil ?_
    intro _ hw'
    obtain ⟨⟨dq, osq⟩, hw''⟩ := hw'
    subst hw''
    have hbw4 := below_regrown w3 dq osq
    generalize grow (redrawn w3 dq) osq = w4 at *
    obtain ⟨hcw4, hfw4⟩ := bcell hbw4
    have hzw4 := hbw4.size
    (try have hs0w4 : w.heap.size < w4.heap.size := by omega); (try have hs1w4 : w.heap.size + 1 < w4.heap.size := by omega); (try have hs2w4 : w.heap.size + 1 + 1 < w4.heap.size := by omega); (try have hs3w4 : w.heap.size + 1 + 1 + 1 < w4.heap.size := by omega); (try have hs_w1_w4 : w1.heap.size < w4.heap.size := by omega); (try have hs_w1p_w4 : w1.heap.size + 1 < w4.heap.size := by omega); (try have hs_w2_w4 : w2.heap.size < w4.heap.size := by omega); (try have hs_w2p_w4 : w2.heap.size + 1 < w4.heap.size := by omega); (try have hs_w3_w4 : w3.heap.size < w4.heap.size := by omega); (try have hs_w3p_w4 : w3.heap.size + 1 < w4.heap.size := by omega); (try have hs_w4_w4 : w4.heap.size < w4.heap.size := by omega); (try have hs_w4p_w4 : w4.heap.size + 1 < w4.heap.size := by omega); (try have hs_w5_w4 : w5.heap.size < w4.heap.size := by omega); (try have hs_w5p_w4 : w5.heap.size + 1 < w4.heap.size := by omega); (try have hs_w6_w4 : w6.heap.size < w4.heap.size := by omega); (try have hs_w6p_w4 : w6.heap.size + 1 < w4.heap.size := by omega)
    clear kT kM kS0 kS1 kS2 kS3 kS4 kS5
    go_wp2_with (go_at_call 18; refine (rsvalid_any _ _ _ _ _ _ _ _ _).mono ?_; rintro e w5 ⟨rfl, hbw5⟩; obtain ⟨hcw5, hfw5⟩ := bcell hbw5; have hzw5 := hbw5.size; (try simp at hzw5); (try have hs0w5 : w.heap.size < w5.heap.size := by omega); (try have hs1w5 : w.heap.size + 1 < w5.heap.size := by omega); (try have hs2w5 : w.heap.size + 1 + 1 < w5.heap.size := by omega); (try have hs3w5 : w.heap.size + 1 + 1 + 1 < w5.heap.size := by omega); (try have hs_w1_w5 : w1.heap.size < w5.heap.size := by omega); (try have hs_w1p_w5 : w1.heap.size + 1 < w5.heap.size := by omega); (try have hs_w2_w5 : w2.heap.size < w5.heap.size := by omega); (try have hs_w2p_w5 : w2.heap.size + 1 < w5.heap.size := by omega); (try have hs_w3_w5 : w3.heap.size < w5.heap.size := by omega); (try have hs_w3p_w5 : w3.heap.size + 1 < w5.heap.size := by omega); (try have hs_w4_w5 : w4.heap.size < w5.heap.size := by omega); (try have hs_w4p_w5 : w4.heap.size + 1 < w5.heap.size := by omega); (try have hs_w5_w5 : w5.heap.size < w5.heap.size := by omega); (try have hs_w5p_w5 : w5.heap.size + 1 < w5.heap.size := by omega); (try have hs_w6_w5 : w6.heap.size < w5.heap.size := by omega); (try have hs_w6p_w5 : w6.heap.size + 1 < w5.heap.size := by omega))
    go_ret
    refine ⟨rfl, ?_⟩
    repeat' (first | (with_reducible refine Below.setCell ?_ ?_ _) | (with_reducible refine Below.alloc ?_ ?_ _) | (with_reducible refine Below.drew ?_) | (with_reducible exact Below.refl _ _) | (with_reducible assumption) | (with_reducible refine Below.trans ?_ (Below.mono (by assumption) ?_)) | omega | (simp <;> omega))

set_option maxHeartbeats 1000000 in
theorem steps_ok (T M m th la pe no te t : Int) (w : World) (hv : svld T M m th la pe no te = true) (ht : isTime t = true) (hlt : m ≠ 0 → la < t) : Calls Try.prog 5 #[wv T M, sv m th la pe no te, .int .i64 t] w fun e w' => e = .returned (.bool true) ∧ Below w.heap.size w w' := by
  obtain ⟨hnv, _⟩ := stepS_valid hv ht hlt
  obtain ⟨⟨m', th', la', pe', no', te'⟩, hr⟩ : ∃ s', stepS T M m th la no te t = s' := ⟨_, rfl⟩
  rw [hr] at hnv
  have hnv2 : svld T M m' th' la' pe' no' te' = true := hnv
  have HS := Lib.hid hr
  have HV := Lib.hid hv
  have HT := Lib.hid ht
  have HL := Lib.hid hlt
  have q1 : (m' == m') = true := by simp
  clear hr hnv
  by_cases hm : m = 0
  · subst hm
    clear hlt
    go_enter Try.func5, Try.ntmps5
    go_wp2_with (first
      | (go_at_call 9; refine (awake_any _).mono ?_; rintro e w1 ⟨rfl, hbw1⟩; obtain ⟨hcw1, hfw1⟩ := bcell hbw1; have hzw1 := hbw1.size; (try simp at hzw1); (try have hs0w1 : w.heap.size < w1.heap.size := by omega); (try have hs1w1 : w.heap.size + 1 < w1.heap.size := by omega); (try have hs2w1 : w.heap.size + 1 + 1 < w1.heap.size := by omega); (try have hs3w1 : w.heap.size + 1 + 1 + 1 < w1.heap.size := by omega); (try have hs_w1_w1 : w1.heap.size < w1.heap.size := by omega); (try have hs_w1p_w1 : w1.heap.size + 1 < w1.heap.size := by omega); (try have hs_w2_w1 : w2.heap.size < w1.heap.size := by omega); (try have hs_w2p_w1 : w2.heap.size + 1 < w1.heap.size := by omega); (try have hs_w3_w1 : w3.heap.size < w1.heap.size := by omega); (try have hs_w3p_w1 : w3.heap.size + 1 < w1.heap.size := by omega); (try have hs_w4_w1 : w4.heap.size < w1.heap.size := by omega); (try have hs_w4p_w1 : w4.heap.size + 1 < w1.heap.size := by omega); (try have hs_w5_w1 : w5.heap.size < w1.heap.size := by omega); (try have hs_w5p_w1 : w5.heap.size + 1 < w1.heap.size := by omega); (try have hs_w6_w1 : w6.heap.size < w1.heap.size := by omega); (try have hs_w6p_w1 : w6.heap.size + 1 < w1.heap.size := by omega))
      | (go_at_call 16; refine (stepP_ok HS.out _ HV.out HT.out (fun h => absurd rfl h)).mono ?_; rintro e w2 ⟨rfl, hbw2⟩; obtain ⟨hcw2, hfw2⟩ := bcell hbw2; have hzw2 := hbw2.size; (try simp at hzw2); (try have hs0w2 : w.heap.size < w2.heap.size := by omega); (try have hs1w2 : w.heap.size + 1 < w2.heap.size := by omega); (try have hs2w2 : w.heap.size + 1 + 1 < w2.heap.size := by omega); (try have hs3w2 : w.heap.size + 1 + 1 + 1 < w2.heap.size := by omega); (try have hs_w1_w2 : w1.heap.size < w2.heap.size := by omega); (try have hs_w1p_w2 : w1.heap.size + 1 < w2.heap.size := by omega); (try have hs_w2_w2 : w2.heap.size < w2.heap.size := by omega); (try have hs_w2p_w2 : w2.heap.size + 1 < w2.heap.size := by omega); (try have hs_w3_w2 : w3.heap.size < w2.heap.size := by omega); (try have hs_w3p_w2 : w3.heap.size + 1 < w2.heap.size := by omega); (try have hs_w4_w2 : w4.heap.size < w2.heap.size := by omega); (try have hs_w4p_w2 : w4.heap.size + 1 < w2.heap.size := by omega); (try have hs_w5_w2 : w5.heap.size < w2.heap.size := by omega); (try have hs_w5p_w2 : w5.heap.size + 1 < w2.heap.size := by omega); (try have hs_w6_w2 : w6.heap.size < w2.heap.size := by omega); (try have hs_w6p_w2 : w6.heap.size + 1 < w2.heap.size := by omega)))
    refine wp_world ?_
    intro w3 hbw3
    obtain ⟨hcw3, hfw3⟩ := bcell hbw3
    have hzw3 := hbw3.size
    (try simp at hzw3)
    (try have hs0w3 : w.heap.size < w3.heap.size := by omega); (try have hs1w3 : w.heap.size + 1 < w3.heap.size := by omega); (try have hs2w3 : w.heap.size + 1 + 1 < w3.heap.size := by omega); (try have hs3w3 : w.heap.size + 1 + 1 + 1 < w3.heap.size := by omega); (try have hs_w1_w3 : w1.heap.size < w3.heap.size := by omega); (try have hs_w1p_w3 : w1.heap.size + 1 < w3.heap.size := by omega); (try have hs_w2_w3 : w2.heap.size < w3.heap.size := by omega); (try have hs_w2p_w3 : w2.heap.size + 1 < w3.heap.size := by omega); (try have hs_w3_w3 : w3.heap.size < w3.heap.size := by omega); (try have hs_w3p_w3 : w3.heap.size + 1 < w3.heap.size := by omega); (try have hs_w4_w3 : w4.heap.size < w3.heap.size := by omega); (try have hs_w4p_w3 : w4.heap.size + 1 < w3.heap.size := by omega); (try have hs_w5_w3 : w5.heap.size < w3.heap.size := by omega); (try have hs_w5p_w3 : w5.heap.size + 1 < w3.heap.size := by omega); (try have hs_w6_w3 : w6.heap.size < w3.heap.size := by omega); (try have hs_w6p_w3 : w6.heap.size + 1 < w3.heap.size := by omega)
    have kT := cell_regrown (w := w3) (a := ⟨w.heap.size, 0, none⟩) (v := .int .i64 T) ((hcw3 (w.heap.size) (0) (by first | omega | (simp <;> omega))).trans (by go_simp))
    have kM := cell_regrown (w := w3) (a := ⟨w.heap.size, 1, none⟩) (v := .int .i64 M) ((hcw3 (w.heap.size) (1) (by first | omega | (simp <;> omega))).trans (by go_simp))
    have kS0 := cell_regrown (w := w3) (a := ⟨w.heap.size + 1, 0, none⟩) (v := .int .i64 0) ((hcw3 (w.heap.size + 1) (0) (by first | omega | (simp <;> omega))).trans (by go_simp))
    have kS1 := cell_regrown (w := w3) (a := ⟨w.heap.size + 1, 1, none⟩) (v := .int .i64 th) ((hcw3 (w.heap.size + 1) (1) (by first | omega | (simp <;> omega))).trans (by go_simp))
    have kS2 := cell_regrown (w := w3) (a := ⟨w.heap.size + 1, 2, none⟩) (v := .int .i64 la) ((hcw3 (w.heap.size + 1) (2) (by first | omega | (simp <;> omega))).trans (by go_simp))
    have kS3 := cell_regrown (w := w3) (a := ⟨w.heap.size + 1, 3, none⟩) (v := .int .i64 pe) ((hcw3 (w.heap.size + 1) (3) (by first | omega | (simp <;> omega))).trans (by go_simp))
    have kS4 := cell_regrown (w := w3) (a := ⟨w.heap.size + 1, 4, none⟩) (v := .int .i64 no) ((hcw3 (w.heap.size + 1) (4) (by first | omega | (simp <;> omega))).trans (by go_simp))
    have kS5 := cell_regrown (w := w3) (a := ⟨w.heap.size + 1, 5, none⟩) (v := .int .i64 te) ((hcw3 (w.heap.size + 1) (5) (by first | omega | (simp <;> omega))).trans (by go_simp))
    refine wp_region_quiet_below (by kernel_rfl) (by kernel_rfl) ?_
    repeat (any_goals (first | go_big_quiet_step ((first | exact Calls.regrown_of (new_any _) | exact Calls.regrown_of (svalid_any _ _ _ _ _ _ _ _ _) | exact Calls.regrown_of (rsvalid_any _ _ _ _ _ _ _ _ _))) | quiet_step ((first | exact Calls.regrown_of (new_any _) | exact Calls.regrown_of (svalid_any _ _ _ _ _ _ _ _ _) | exact Calls.regrown_of (rsvalid_any _ _ _ _ _ _ _ _ _)))))
    refine wpQuiet_nil ?_
    intro _ hw'
    obtain ⟨⟨dq, osq⟩, hw''⟩ := hw'
    subst hw''
    have hbw4 := below_regrown w3 dq osq
    generalize grow (redrawn w3 dq) osq = w4 at *
    obtain ⟨hcw4, hfw4⟩ := bcell hbw4
    have hzw4 := hbw4.size
    (try have hs0w4 : w.heap.size < w4.heap.size := by omega); (try have hs1w4 : w.heap.size + 1 < w4.heap.size := by omega); (try have hs2w4 : w.heap.size + 1 + 1 < w4.heap.size := by omega); (try have hs3w4 : w.heap.size + 1 + 1 + 1 < w4.heap.size := by omega); (try have hs_w1_w4 : w1.heap.size < w4.heap.size := by omega); (try have hs_w1p_w4 : w1.heap.size + 1 < w4.heap.size := by omega); (try have hs_w2_w4 : w2.heap.size < w4.heap.size := by omega); (try have hs_w2p_w4 : w2.heap.size + 1 < w4.heap.size := by omega); (try have hs_w3_w4 : w3.heap.size < w4.heap.size := by omega); (try have hs_w3p_w4 : w3.heap.size + 1 < w4.heap.size := by omega); (try have hs_w4_w4 : w4.heap.size < w4.heap.size := by omega); (try have hs_w4p_w4 : w4.heap.size + 1 < w4.heap.size := by omega); (try have hs_w5_w4 : w5.heap.size < w4.heap.size := by omega); (try have hs_w5p_w4 : w5.heap.size + 1 < w4.heap.size := by omega); (try have hs_w6_w4 : w6.heap.size < w4.heap.size := by omega); (try have hs_w6p_w4 : w6.heap.size + 1 < w4.heap.size := by omega)
    clear kT kM kS0 kS1 kS2 kS3 kS4 kS5
    go_wp2_with (first
      | (go_at_call 18; refine (rsvalid_any _ _ _ _ _ _ _ _ _).mono ?_; rintro e w5 ⟨rfl, hbw5⟩; obtain ⟨hcw5, hfw5⟩ := bcell hbw5; have hzw5 := hbw5.size; (try simp at hzw5); (try have hs0w5 : w.heap.size < w5.heap.size := by omega); (try have hs1w5 : w.heap.size + 1 < w5.heap.size := by omega); (try have hs2w5 : w.heap.size + 1 + 1 < w5.heap.size := by omega); (try have hs3w5 : w.heap.size + 1 + 1 + 1 < w5.heap.size := by omega); (try have hs_w1_w5 : w1.heap.size < w5.heap.size := by omega); (try have hs_w1p_w5 : w1.heap.size + 1 < w5.heap.size := by omega); (try have hs_w2_w5 : w2.heap.size < w5.heap.size := by omega); (try have hs_w2p_w5 : w2.heap.size + 1 < w5.heap.size := by omega); (try have hs_w3_w5 : w3.heap.size < w5.heap.size := by omega); (try have hs_w3p_w5 : w3.heap.size + 1 < w5.heap.size := by omega); (try have hs_w4_w5 : w4.heap.size < w5.heap.size := by omega); (try have hs_w4p_w5 : w4.heap.size + 1 < w5.heap.size := by omega); (try have hs_w5_w5 : w5.heap.size < w5.heap.size := by omega); (try have hs_w5p_w5 : w5.heap.size + 1 < w5.heap.size := by omega); (try have hs_w6_w5 : w6.heap.size < w5.heap.size := by omega); (try have hs_w6p_w5 : w6.heap.size + 1 < w5.heap.size := by omega))
      | (go_at_call 19; refine (rtime_any _ _).mono ?_; rintro e w1 ⟨rfl, rfl⟩))
    have kT := cell_regrown (w := w5) (a := ⟨w.heap.size, 0, none⟩) (v := .int .i64 T) ((hcw5 (w.heap.size) (0) (by first | omega | (simp <;> omega))).trans (by go_simp))
    have kM := cell_regrown (w := w5) (a := ⟨w.heap.size, 1, none⟩) (v := .int .i64 M) ((hcw5 (w.heap.size) (1) (by first | omega | (simp <;> omega))).trans (by go_simp))
    have kS0 := cell_regrown (w := w5) (a := ⟨w.heap.size + 1, 0, none⟩) (v := .int .i64 0) ((hcw5 (w.heap.size + 1) (0) (by first | omega | (simp <;> omega))).trans (by go_simp))
    have kS1 := cell_regrown (w := w5) (a := ⟨w.heap.size + 1, 1, none⟩) (v := .int .i64 th) ((hcw5 (w.heap.size + 1) (1) (by first | omega | (simp <;> omega))).trans (by go_simp))
    have kS2 := cell_regrown (w := w5) (a := ⟨w.heap.size + 1, 2, none⟩) (v := .int .i64 la) ((hcw5 (w.heap.size + 1) (2) (by first | omega | (simp <;> omega))).trans (by go_simp))
    have kS3 := cell_regrown (w := w5) (a := ⟨w.heap.size + 1, 3, none⟩) (v := .int .i64 pe) ((hcw5 (w.heap.size + 1) (3) (by first | omega | (simp <;> omega))).trans (by go_simp))
    have kS4 := cell_regrown (w := w5) (a := ⟨w.heap.size + 1, 4, none⟩) (v := .int .i64 no) ((hcw5 (w.heap.size + 1) (4) (by first | omega | (simp <;> omega))).trans (by go_simp))
    have kS5 := cell_regrown (w := w5) (a := ⟨w.heap.size + 1, 5, none⟩) (v := .int .i64 te) ((hcw5 (w.heap.size + 1) (5) (by first | omega | (simp <;> omega))).trans (by go_simp))
    have kX0 := cell_regrown (w := w5) (a := ⟨w2.heap.size, 0, none⟩) (v := .int .i64 m') ((hcw5 (w2.heap.size) (0) (by first | omega | (simp <;> omega))).trans (by go_simp))
    have kX1 := cell_regrown (w := w5) (a := ⟨w2.heap.size, 1, none⟩) (v := .int .i64 th') ((hcw5 (w2.heap.size) (1) (by first | omega | (simp <;> omega))).trans (by go_simp))
    have kX2 := cell_regrown (w := w5) (a := ⟨w2.heap.size, 2, none⟩) (v := .int .i64 la') ((hcw5 (w2.heap.size) (2) (by first | omega | (simp <;> omega))).trans (by go_simp))
    have kX3 := cell_regrown (w := w5) (a := ⟨w2.heap.size, 3, none⟩) (v := .int .i64 pe') ((hcw5 (w2.heap.size) (3) (by first | omega | (simp <;> omega))).trans (by go_simp))
    have kX4 := cell_regrown (w := w5) (a := ⟨w2.heap.size, 4, none⟩) (v := .int .i64 no') ((hcw5 (w2.heap.size) (4) (by first | omega | (simp <;> omega))).trans (by go_simp))
    have kX5 := cell_regrown (w := w5) (a := ⟨w2.heap.size, 5, none⟩) (v := .int .i64 te') ((hcw5 (w2.heap.size) (5) (by first | omega | (simp <;> omega))).trans (by go_simp))
    refine wp_region_quiet_below (by kernel_rfl) (by kernel_rfl) ?_
    repeat (any_goals (first | go_big_quiet_step ((first | exact Calls.regrown_of (rstepS_in HS.out _ HV.out HT.out (fun h => absurd rfl h)) | exact Calls.regrown_of (svalid_any _ _ _ _ _ _ _ _ _))) | quiet_step ((first | exact Calls.regrown_of (rstepS_in HS.out _ HV.out HT.out (fun h => absurd rfl h)) | exact Calls.regrown_of (svalid_any _ _ _ _ _ _ _ _ _)))))
    refine wpQuiet_nil ?_
    intro _ hw'
    obtain ⟨⟨dq, osq⟩, hw''⟩ := hw'
    subst hw''
    have hbw6 := below_regrown w5 dq osq
    generalize grow (redrawn w5 dq) osq = w6 at *
    obtain ⟨hcw6, hfw6⟩ := bcell hbw6
    have hzw6 := hbw6.size
    (try have hs0w6 : w.heap.size < w6.heap.size := by omega); (try have hs1w6 : w.heap.size + 1 < w6.heap.size := by omega); (try have hs2w6 : w.heap.size + 1 + 1 < w6.heap.size := by omega); (try have hs3w6 : w.heap.size + 1 + 1 + 1 < w6.heap.size := by omega); (try have hs_w1_w6 : w1.heap.size < w6.heap.size := by omega); (try have hs_w1p_w6 : w1.heap.size + 1 < w6.heap.size := by omega); (try have hs_w2_w6 : w2.heap.size < w6.heap.size := by omega); (try have hs_w2p_w6 : w2.heap.size + 1 < w6.heap.size := by omega); (try have hs_w3_w6 : w3.heap.size < w6.heap.size := by omega); (try have hs_w3p_w6 : w3.heap.size + 1 < w6.heap.size := by omega); (try have hs_w4_w6 : w4.heap.size < w6.heap.size := by omega); (try have hs_w4p_w6 : w4.heap.size + 1 < w6.heap.size := by omega); (try have hs_w5_w6 : w5.heap.size < w6.heap.size := by omega); (try have hs_w5p_w6 : w5.heap.size + 1 < w6.heap.size := by omega); (try have hs_w6_w6 : w6.heap.size < w6.heap.size := by omega); (try have hs_w6p_w6 : w6.heap.size + 1 < w6.heap.size := by omega)
    clear kT kM kS0 kS1 kS2 kS3 kS4 kS5 kX0 kX1 kX2 kX3 kX4 kX5
    go_wp2
    go_ret
    refine ⟨rfl, ?_⟩
    repeat' (first | (with_reducible refine Below.setCell ?_ ?_ _) | (with_reducible refine Below.alloc ?_ ?_ _) | (with_reducible refine Below.drew ?_) | (with_reducible exact Below.refl _ _) | (with_reducible assumption) | (with_reducible refine Below.trans ?_ (Below.mono (by assumption) ?_)) | omega | (simp <;> omega))
  · have hlt2 := hlt hm
    have e1 : (m != 0) = true := by rw [bne_iff_ne]; exact hm
    clear hlt hm
    go_enter Try.func5, Try.ntmps5
    go_wp2_with (first
      | (go_at_call 9; refine (awake_any _).mono ?_; rintro e w1 ⟨rfl, hbw1⟩; obtain ⟨hcw1, hfw1⟩ := bcell hbw1; have hzw1 := hbw1.size; (try simp at hzw1); (try have hs0w1 : w.heap.size < w1.heap.size := by omega); (try have hs1w1 : w.heap.size + 1 < w1.heap.size := by omega); (try have hs2w1 : w.heap.size + 1 + 1 < w1.heap.size := by omega); (try have hs3w1 : w.heap.size + 1 + 1 + 1 < w1.heap.size := by omega); (try have hs_w1_w1 : w1.heap.size < w1.heap.size := by omega); (try have hs_w1p_w1 : w1.heap.size + 1 < w1.heap.size := by omega); (try have hs_w2_w1 : w2.heap.size < w1.heap.size := by omega); (try have hs_w2p_w1 : w2.heap.size + 1 < w1.heap.size := by omega); (try have hs_w3_w1 : w3.heap.size < w1.heap.size := by omega); (try have hs_w3p_w1 : w3.heap.size + 1 < w1.heap.size := by omega); (try have hs_w4_w1 : w4.heap.size < w1.heap.size := by omega); (try have hs_w4p_w1 : w4.heap.size + 1 < w1.heap.size := by omega); (try have hs_w5_w1 : w5.heap.size < w1.heap.size := by omega); (try have hs_w5p_w1 : w5.heap.size + 1 < w1.heap.size := by omega); (try have hs_w6_w1 : w6.heap.size < w1.heap.size := by omega); (try have hs_w6p_w1 : w6.heap.size + 1 < w1.heap.size := by omega))
      | (go_at_call 16; refine (stepP_ok HS.out _ HV.out HT.out HL.out).mono ?_; rintro e w2 ⟨rfl, hbw2⟩; obtain ⟨hcw2, hfw2⟩ := bcell hbw2; have hzw2 := hbw2.size; (try simp at hzw2); (try have hs0w2 : w.heap.size < w2.heap.size := by omega); (try have hs1w2 : w.heap.size + 1 < w2.heap.size := by omega); (try have hs2w2 : w.heap.size + 1 + 1 < w2.heap.size := by omega); (try have hs3w2 : w.heap.size + 1 + 1 + 1 < w2.heap.size := by omega); (try have hs_w1_w2 : w1.heap.size < w2.heap.size := by omega); (try have hs_w1p_w2 : w1.heap.size + 1 < w2.heap.size := by omega); (try have hs_w2_w2 : w2.heap.size < w2.heap.size := by omega); (try have hs_w2p_w2 : w2.heap.size + 1 < w2.heap.size := by omega); (try have hs_w3_w2 : w3.heap.size < w2.heap.size := by omega); (try have hs_w3p_w2 : w3.heap.size + 1 < w2.heap.size := by omega); (try have hs_w4_w2 : w4.heap.size < w2.heap.size := by omega); (try have hs_w4p_w2 : w4.heap.size + 1 < w2.heap.size := by omega); (try have hs_w5_w2 : w5.heap.size < w2.heap.size := by omega); (try have hs_w5p_w2 : w5.heap.size + 1 < w2.heap.size := by omega); (try have hs_w6_w2 : w6.heap.size < w2.heap.size := by omega); (try have hs_w6p_w2 : w6.heap.size + 1 < w2.heap.size := by omega)))
    refine wp_world ?_
    intro w3 hbw3
    obtain ⟨hcw3, hfw3⟩ := bcell hbw3
    have hzw3 := hbw3.size
    (try simp at hzw3)
    (try have hs0w3 : w.heap.size < w3.heap.size := by omega); (try have hs1w3 : w.heap.size + 1 < w3.heap.size := by omega); (try have hs2w3 : w.heap.size + 1 + 1 < w3.heap.size := by omega); (try have hs3w3 : w.heap.size + 1 + 1 + 1 < w3.heap.size := by omega); (try have hs_w1_w3 : w1.heap.size < w3.heap.size := by omega); (try have hs_w1p_w3 : w1.heap.size + 1 < w3.heap.size := by omega); (try have hs_w2_w3 : w2.heap.size < w3.heap.size := by omega); (try have hs_w2p_w3 : w2.heap.size + 1 < w3.heap.size := by omega); (try have hs_w3_w3 : w3.heap.size < w3.heap.size := by omega); (try have hs_w3p_w3 : w3.heap.size + 1 < w3.heap.size := by omega); (try have hs_w4_w3 : w4.heap.size < w3.heap.size := by omega); (try have hs_w4p_w3 : w4.heap.size + 1 < w3.heap.size := by omega); (try have hs_w5_w3 : w5.heap.size < w3.heap.size := by omega); (try have hs_w5p_w3 : w5.heap.size + 1 < w3.heap.size := by omega); (try have hs_w6_w3 : w6.heap.size < w3.heap.size := by omega); (try have hs_w6p_w3 : w6.heap.size + 1 < w3.heap.size := by omega)
    have kT := cell_regrown (w := w3) (a := ⟨w.heap.size, 0, none⟩) (v := .int .i64 T) ((hcw3 (w.heap.size) (0) (by first | omega | (simp <;> omega))).trans (by go_simp))
    have kM := cell_regrown (w := w3) (a := ⟨w.heap.size, 1, none⟩) (v := .int .i64 M) ((hcw3 (w.heap.size) (1) (by first | omega | (simp <;> omega))).trans (by go_simp))
    have kS0 := cell_regrown (w := w3) (a := ⟨w.heap.size + 1, 0, none⟩) (v := .int .i64 m) ((hcw3 (w.heap.size + 1) (0) (by first | omega | (simp <;> omega))).trans (by go_simp))
    have kS1 := cell_regrown (w := w3) (a := ⟨w.heap.size + 1, 1, none⟩) (v := .int .i64 th) ((hcw3 (w.heap.size + 1) (1) (by first | omega | (simp <;> omega))).trans (by go_simp))
    have kS2 := cell_regrown (w := w3) (a := ⟨w.heap.size + 1, 2, none⟩) (v := .int .i64 la) ((hcw3 (w.heap.size + 1) (2) (by first | omega | (simp <;> omega))).trans (by go_simp))
    have kS3 := cell_regrown (w := w3) (a := ⟨w.heap.size + 1, 3, none⟩) (v := .int .i64 pe) ((hcw3 (w.heap.size + 1) (3) (by first | omega | (simp <;> omega))).trans (by go_simp))
    have kS4 := cell_regrown (w := w3) (a := ⟨w.heap.size + 1, 4, none⟩) (v := .int .i64 no) ((hcw3 (w.heap.size + 1) (4) (by first | omega | (simp <;> omega))).trans (by go_simp))
    have kS5 := cell_regrown (w := w3) (a := ⟨w.heap.size + 1, 5, none⟩) (v := .int .i64 te) ((hcw3 (w.heap.size + 1) (5) (by first | omega | (simp <;> omega))).trans (by go_simp))
    refine wp_region_quiet_below (by kernel_rfl) (by kernel_rfl) ?_
    repeat (any_goals (first | go_big_quiet_step ((first | exact Calls.regrown_of (new_any _) | exact Calls.regrown_of (svalid_any _ _ _ _ _ _ _ _ _) | exact Calls.regrown_of (rsvalid_any _ _ _ _ _ _ _ _ _))) | quiet_step ((first | exact Calls.regrown_of (new_any _) | exact Calls.regrown_of (svalid_any _ _ _ _ _ _ _ _ _) | exact Calls.regrown_of (rsvalid_any _ _ _ _ _ _ _ _ _)))))
    refine wpQuiet_nil ?_
    intro _ hw'
    obtain ⟨⟨dq, osq⟩, hw''⟩ := hw'
    subst hw''
    have hbw4 := below_regrown w3 dq osq
    generalize grow (redrawn w3 dq) osq = w4 at *
    obtain ⟨hcw4, hfw4⟩ := bcell hbw4
    have hzw4 := hbw4.size
    (try have hs0w4 : w.heap.size < w4.heap.size := by omega); (try have hs1w4 : w.heap.size + 1 < w4.heap.size := by omega); (try have hs2w4 : w.heap.size + 1 + 1 < w4.heap.size := by omega); (try have hs3w4 : w.heap.size + 1 + 1 + 1 < w4.heap.size := by omega); (try have hs_w1_w4 : w1.heap.size < w4.heap.size := by omega); (try have hs_w1p_w4 : w1.heap.size + 1 < w4.heap.size := by omega); (try have hs_w2_w4 : w2.heap.size < w4.heap.size := by omega); (try have hs_w2p_w4 : w2.heap.size + 1 < w4.heap.size := by omega); (try have hs_w3_w4 : w3.heap.size < w4.heap.size := by omega); (try have hs_w3p_w4 : w3.heap.size + 1 < w4.heap.size := by omega); (try have hs_w4_w4 : w4.heap.size < w4.heap.size := by omega); (try have hs_w4p_w4 : w4.heap.size + 1 < w4.heap.size := by omega); (try have hs_w5_w4 : w5.heap.size < w4.heap.size := by omega); (try have hs_w5p_w4 : w5.heap.size + 1 < w4.heap.size := by omega); (try have hs_w6_w4 : w6.heap.size < w4.heap.size := by omega); (try have hs_w6p_w4 : w6.heap.size + 1 < w4.heap.size := by omega)
    clear kT kM kS0 kS1 kS2 kS3 kS4 kS5
    go_wp2_with (first
      | (go_at_call 18; refine (rsvalid_any _ _ _ _ _ _ _ _ _).mono ?_; rintro e w5 ⟨rfl, hbw5⟩; obtain ⟨hcw5, hfw5⟩ := bcell hbw5; have hzw5 := hbw5.size; (try simp at hzw5); (try have hs0w5 : w.heap.size < w5.heap.size := by omega); (try have hs1w5 : w.heap.size + 1 < w5.heap.size := by omega); (try have hs2w5 : w.heap.size + 1 + 1 < w5.heap.size := by omega); (try have hs3w5 : w.heap.size + 1 + 1 + 1 < w5.heap.size := by omega); (try have hs_w1_w5 : w1.heap.size < w5.heap.size := by omega); (try have hs_w1p_w5 : w1.heap.size + 1 < w5.heap.size := by omega); (try have hs_w2_w5 : w2.heap.size < w5.heap.size := by omega); (try have hs_w2p_w5 : w2.heap.size + 1 < w5.heap.size := by omega); (try have hs_w3_w5 : w3.heap.size < w5.heap.size := by omega); (try have hs_w3p_w5 : w3.heap.size + 1 < w5.heap.size := by omega); (try have hs_w4_w5 : w4.heap.size < w5.heap.size := by omega); (try have hs_w4p_w5 : w4.heap.size + 1 < w5.heap.size := by omega); (try have hs_w5_w5 : w5.heap.size < w5.heap.size := by omega); (try have hs_w5p_w5 : w5.heap.size + 1 < w5.heap.size := by omega); (try have hs_w6_w5 : w6.heap.size < w5.heap.size := by omega); (try have hs_w6p_w5 : w6.heap.size + 1 < w5.heap.size := by omega))
      | (go_at_call 19; refine (rtime_any _ _).mono ?_; rintro e w1 ⟨rfl, rfl⟩))
    have kT := cell_regrown (w := w5) (a := ⟨w.heap.size, 0, none⟩) (v := .int .i64 T) ((hcw5 (w.heap.size) (0) (by first | omega | (simp <;> omega))).trans (by go_simp))
    have kM := cell_regrown (w := w5) (a := ⟨w.heap.size, 1, none⟩) (v := .int .i64 M) ((hcw5 (w.heap.size) (1) (by first | omega | (simp <;> omega))).trans (by go_simp))
    have kS0 := cell_regrown (w := w5) (a := ⟨w.heap.size + 1, 0, none⟩) (v := .int .i64 m) ((hcw5 (w.heap.size + 1) (0) (by first | omega | (simp <;> omega))).trans (by go_simp))
    have kS1 := cell_regrown (w := w5) (a := ⟨w.heap.size + 1, 1, none⟩) (v := .int .i64 th) ((hcw5 (w.heap.size + 1) (1) (by first | omega | (simp <;> omega))).trans (by go_simp))
    have kS2 := cell_regrown (w := w5) (a := ⟨w.heap.size + 1, 2, none⟩) (v := .int .i64 la) ((hcw5 (w.heap.size + 1) (2) (by first | omega | (simp <;> omega))).trans (by go_simp))
    have kS3 := cell_regrown (w := w5) (a := ⟨w.heap.size + 1, 3, none⟩) (v := .int .i64 pe) ((hcw5 (w.heap.size + 1) (3) (by first | omega | (simp <;> omega))).trans (by go_simp))
    have kS4 := cell_regrown (w := w5) (a := ⟨w.heap.size + 1, 4, none⟩) (v := .int .i64 no) ((hcw5 (w.heap.size + 1) (4) (by first | omega | (simp <;> omega))).trans (by go_simp))
    have kS5 := cell_regrown (w := w5) (a := ⟨w.heap.size + 1, 5, none⟩) (v := .int .i64 te) ((hcw5 (w.heap.size + 1) (5) (by first | omega | (simp <;> omega))).trans (by go_simp))
    have kX0 := cell_regrown (w := w5) (a := ⟨w2.heap.size, 0, none⟩) (v := .int .i64 m') ((hcw5 (w2.heap.size) (0) (by first | omega | (simp <;> omega))).trans (by go_simp))
    have kX1 := cell_regrown (w := w5) (a := ⟨w2.heap.size, 1, none⟩) (v := .int .i64 th') ((hcw5 (w2.heap.size) (1) (by first | omega | (simp <;> omega))).trans (by go_simp))
    have kX2 := cell_regrown (w := w5) (a := ⟨w2.heap.size, 2, none⟩) (v := .int .i64 la') ((hcw5 (w2.heap.size) (2) (by first | omega | (simp <;> omega))).trans (by go_simp))
    have kX3 := cell_regrown (w := w5) (a := ⟨w2.heap.size, 3, none⟩) (v := .int .i64 pe') ((hcw5 (w2.heap.size) (3) (by first | omega | (simp <;> omega))).trans (by go_simp))
    have kX4 := cell_regrown (w := w5) (a := ⟨w2.heap.size, 4, none⟩) (v := .int .i64 no') ((hcw5 (w2.heap.size) (4) (by first | omega | (simp <;> omega))).trans (by go_simp))
    have kX5 := cell_regrown (w := w5) (a := ⟨w2.heap.size, 5, none⟩) (v := .int .i64 te') ((hcw5 (w2.heap.size) (5) (by first | omega | (simp <;> omega))).trans (by go_simp))
    refine wp_region_quiet_below (by kernel_rfl) (by kernel_rfl) ?_
    repeat (any_goals (first | go_big_quiet_step ((first | exact Calls.regrown_of (rstepS_in HS.out _ HV.out HT.out (fun _ => hlt2)) | exact Calls.regrown_of (svalid_any _ _ _ _ _ _ _ _ _))) | quiet_step ((first | exact Calls.regrown_of (rstepS_in HS.out _ HV.out HT.out (fun _ => hlt2)) | exact Calls.regrown_of (svalid_any _ _ _ _ _ _ _ _ _)))))
    refine wpQuiet_nil ?_
    intro _ hw'
    obtain ⟨⟨dq, osq⟩, hw''⟩ := hw'
    subst hw''
    have hbw6 := below_regrown w5 dq osq
    generalize grow (redrawn w5 dq) osq = w6 at *
    obtain ⟨hcw6, hfw6⟩ := bcell hbw6
    have hzw6 := hbw6.size
    (try have hs0w6 : w.heap.size < w6.heap.size := by omega); (try have hs1w6 : w.heap.size + 1 < w6.heap.size := by omega); (try have hs2w6 : w.heap.size + 1 + 1 < w6.heap.size := by omega); (try have hs3w6 : w.heap.size + 1 + 1 + 1 < w6.heap.size := by omega); (try have hs_w1_w6 : w1.heap.size < w6.heap.size := by omega); (try have hs_w1p_w6 : w1.heap.size + 1 < w6.heap.size := by omega); (try have hs_w2_w6 : w2.heap.size < w6.heap.size := by omega); (try have hs_w2p_w6 : w2.heap.size + 1 < w6.heap.size := by omega); (try have hs_w3_w6 : w3.heap.size < w6.heap.size := by omega); (try have hs_w3p_w6 : w3.heap.size + 1 < w6.heap.size := by omega); (try have hs_w4_w6 : w4.heap.size < w6.heap.size := by omega); (try have hs_w4p_w6 : w4.heap.size + 1 < w6.heap.size := by omega); (try have hs_w5_w6 : w5.heap.size < w6.heap.size := by omega); (try have hs_w5p_w6 : w5.heap.size + 1 < w6.heap.size := by omega); (try have hs_w6_w6 : w6.heap.size < w6.heap.size := by omega); (try have hs_w6p_w6 : w6.heap.size + 1 < w6.heap.size := by omega)
    clear kT kM kS0 kS1 kS2 kS3 kS4 kS5 kX0 kX1 kX2 kX3 kX4 kX5
    go_wp2
    go_ret
    refine ⟨rfl, ?_⟩
    repeat' (first | (with_reducible refine Below.setCell ?_ ?_ _) | (with_reducible refine Below.alloc ?_ ?_ _) | (with_reducible refine Below.drew ?_) | (with_reducible exact Below.refl _ _) | (with_reducible assumption) | (with_reducible refine Below.trans ?_ (Below.mono (by assumption) ?_)) | omega | (simp <;> omega))

theorem law_steps (T M m th la pe no te t : Int) (w : World) : Calls Try.prog 5 #[wv T M, sv m th la pe no te, .int .i64 t] w fun e w' => e = .returned (.bool true) ∧ Below w.heap.size w w' := by
  by_cases he : stepErr T M m th la pe no te t = 0
  · unfold stepErr at he
    by_cases hv : svld T M m th la pe no te = true
    · rw [if_neg (by rw [hv]; decide)] at he
      by_cases ht : isTime t = true
      · rw [if_neg (by rw [ht]; decide)] at he
        by_cases hl : m ≠ 0 ∧ t ≤ la
        · rw [if_pos hl] at he; omega
        · exact steps_ok T M m th la pe no te t w hv ht (fun hm => by
            have : ¬ t ≤ la := fun h => hl ⟨hm, h⟩
            omega)
      · rw [if_pos (by simpa using ht)] at he; omega
    · rw [if_pos (by simpa using hv)] at he; omega
  · exact steps_err T M m th la pe no te t _ w rfl he

end Go.Proofs.Ytcaadikffaflnaa
