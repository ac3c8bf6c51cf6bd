/- The contracts of sync.Window, sync.Stall, and the reference's Patience. -/
import Derived.Test.YtcaadikffaflnaaVf
namespace Go.Proofs.Ytcaadikffaflnaa
open Go.RowKit Go.Sort

theorem window_no (T M m th la pe no te : Int) (w : World) (h : svld T M m th la pe no te = false ∨ m ≠ 2) : Calls Try.prog 21 #[wv T M, sv m th la pe no te] w fun e w' => e = .returned (.tuple #[.int .i64 0, .int .i64 0]) ∧ Below w.heap.size w w' := by
  by_cases hv : svld T M m th la pe no te = true
  · have hm : m ≠ 2 := by
      rcases h with h | h
      · rw [h] at hv; cases hv
      · exact h
    have e1 : (m != 2) = true := by rw [bne_iff_ne]; exact hm
    clear h hm
    go_enter Try.func21, Try.ntmps21
    go_wp2_with (go_at_call 17; refine (svalid_any _ _ _ _ _ _ _ _ _).mono ?_; rintro e w1 ⟨rfl, hbw1⟩; obtain ⟨hcw1, hfw1⟩ := bcell hbw1; have hzw1 := hbw1.size; (try simp at hzw1); (try have hs0w1 : w.heap.size < w1.heap.size := by omega); (try have hs1w1 : w.heap.size + 1 < w1.heap.size := by omega); (try have hs2w1 : w.heap.size + 1 + 1 < w1.heap.size := by omega); (try have hs3w1 : w.heap.size + 1 + 1 + 1 < w1.heap.size := by omega); (try have hs_w1_w1 : w1.heap.size < w1.heap.size := by omega); (try have hs_w1p_w1 : w1.heap.size + 1 < w1.heap.size := by omega); (try have hs_w2_w1 : w2.heap.size < w1.heap.size := by omega); (try have hs_w2p_w1 : w2.heap.size + 1 < w1.heap.size := by omega); (try have hs_w3_w1 : w3.heap.size < w1.heap.size := by omega); (try have hs_w3p_w1 : w3.heap.size + 1 < w1.heap.size := by omega); (try have hs_w4_w1 : w4.heap.size < w1.heap.size := by omega); (try have hs_w4p_w1 : w4.heap.size + 1 < w1.heap.size := by omega); (try have hs_w5_w1 : w5.heap.size < w1.heap.size := by omega); (try have hs_w5p_w1 : w5.heap.size + 1 < w1.heap.size := by omega); (try have hs_w6_w1 : w6.heap.size < w1.heap.size := by omega); (try have hs_w6p_w1 : w6.heap.size + 1 < w1.heap.size := by omega))
    go_ret2
    refine ⟨rfl, ?_⟩
    repeat' (first | (with_reducible refine Below.setCell ?_ ?_ _) | (with_reducible refine Below.alloc ?_ ?_ _) | (with_reducible refine Below.drew ?_) | (with_reducible exact Below.refl _ _) | (with_reducible assumption) | (with_reducible refine Below.trans ?_ (Below.mono (by assumption) ?_)) | omega | (simp <;> omega))
  · have hv' : svld T M m th la pe no te = false := by simpa using hv
    clear h hv
    go_enter Try.func21, Try.ntmps21
    go_wp2_with (go_at_call 17; refine (svalid_any _ _ _ _ _ _ _ _ _).mono ?_; rintro e w1 ⟨rfl, hbw1⟩; obtain ⟨hcw1, hfw1⟩ := bcell hbw1; have hzw1 := hbw1.size; (try simp at hzw1); (try have hs0w1 : w.heap.size < w1.heap.size := by omega); (try have hs1w1 : w.heap.size + 1 < w1.heap.size := by omega); (try have hs2w1 : w.heap.size + 1 + 1 < w1.heap.size := by omega); (try have hs3w1 : w.heap.size + 1 + 1 + 1 < w1.heap.size := by omega); (try have hs_w1_w1 : w1.heap.size < w1.heap.size := by omega); (try have hs_w1p_w1 : w1.heap.size + 1 < w1.heap.size := by omega); (try have hs_w2_w1 : w2.heap.size < w1.heap.size := by omega); (try have hs_w2p_w1 : w2.heap.size + 1 < w1.heap.size := by omega); (try have hs_w3_w1 : w3.heap.size < w1.heap.size := by omega); (try have hs_w3p_w1 : w3.heap.size + 1 < w1.heap.size := by omega); (try have hs_w4_w1 : w4.heap.size < w1.heap.size := by omega); (try have hs_w4p_w1 : w4.heap.size + 1 < w1.heap.size := by omega); (try have hs_w5_w1 : w5.heap.size < w1.heap.size := by omega); (try have hs_w5p_w1 : w5.heap.size + 1 < w1.heap.size := by omega); (try have hs_w6_w1 : w6.heap.size < w1.heap.size := by omega); (try have hs_w6p_w1 : w6.heap.size + 1 < w1.heap.size := by omega))
    go_ret2
    refine ⟨rfl, ?_⟩
    repeat' (first | (with_reducible refine Below.setCell ?_ ?_ _) | (with_reducible refine Below.alloc ?_ ?_ _) | (with_reducible refine Below.drew ?_) | (with_reducible exact Below.refl _ _) | (with_reducible assumption) | (with_reducible refine Below.trans ?_ (Below.mono (by assumption) ?_)) | omega | (simp <;> omega))

def winLow (T M th la no : Int) : Int := la + expc T M th no - expc T M th no / 4
def winHigh (T M th la no : Int) : Int := la + expc T M th no + expc T M th no / 4

theorem window_ok (T M th la pe no te : Int) (w : World) (hv : svld T M 2 th la pe no te = true) : Calls Try.prog 21 #[wv T M, sv 2 th la pe no te] w fun e w' => e = .returned (.tuple #[.int .i64 (winLow T M th la no), .int .i64 (winHigh T M th la no)]) ∧ Below w.heap.size w w' := by
  obtain ⟨hw, hc⟩ := svld_cases hv
  have HW := Lib.hid hw
  have hb : 0 ≤ la ∧ la ≤ 1099511627776 ∧ 0 ≤ no ∧ no ≤ 1099511627776 := by omega
  obtain ⟨l0, l1, n0, n1⟩ := hb
  obtain ⟨x0, x1⟩ := expc_bd (th := th) hw n0 n1
  unfold winLow winHigh
  obtain ⟨q, hq⟩ : ∃ q, q = expc T M th no := ⟨_, rfl⟩
  rw [← hq] at x0 x1 ⊢
  have HQ := Lib.hid hq
  clear hw hc hq
  go_enter Try.func21, Try.ntmps21
  go_wp2_with (first
    | (go_at_call 17; refine (svalid_any _ _ _ _ _ _ _ _ _).mono ?_; rintro e w1 ⟨rfl, hbw1⟩; obtain ⟨hcw1, hfw1⟩ := bcell hbw1; have hzw1 := hbw1.size; (try simp at hzw1); (try have hs0w1 : w.heap.size < w1.heap.size := by omega); (try have hs1w1 : w.heap.size + 1 < w1.heap.size := by omega); (try have hs2w1 : w.heap.size + 1 + 1 < w1.heap.size := by omega); (try have hs3w1 : w.heap.size + 1 + 1 + 1 < w1.heap.size := by omega); (try have hs_w1_w1 : w1.heap.size < w1.heap.size := by omega); (try have hs_w1p_w1 : w1.heap.size + 1 < w1.heap.size := by omega); (try have hs_w2_w1 : w2.heap.size < w1.heap.size := by omega); (try have hs_w2p_w1 : w2.heap.size + 1 < w1.heap.size := by omega); (try have hs_w3_w1 : w3.heap.size < w1.heap.size := by omega); (try have hs_w3p_w1 : w3.heap.size + 1 < w1.heap.size := by omega); (try have hs_w4_w1 : w4.heap.size < w1.heap.size := by omega); (try have hs_w4p_w1 : w4.heap.size + 1 < w1.heap.size := by omega); (try have hs_w5_w1 : w5.heap.size < w1.heap.size := by omega); (try have hs_w5p_w1 : w5.heap.size + 1 < w1.heap.size := by omega); (try have hs_w6_w1 : w6.heap.size < w1.heap.size := by omega); (try have hs_w6p_w1 : w6.heap.size + 1 < w1.heap.size := by omega))
    | (go_at_call 38; refine (expected_any _ _ _ _ _ _ _ _ _ HW.out n0 n1).mono ?_; rw [← HQ.out]; rintro e w2 ⟨rfl, hbw2⟩; obtain ⟨hcw2, hfw2⟩ := bcell hbw2; have hzw2 := hbw2.size; (try simp at hzw2); (try have hs0w2 : w.heap.size < w2.heap.size := by omega); (try have hs1w2 : w.heap.size + 1 < w2.heap.size := by omega); (try have hs2w2 : w.heap.size + 1 + 1 < w2.heap.size := by omega); (try have hs3w2 : w.heap.size + 1 + 1 + 1 < w2.heap.size := by omega); (try have hs_w1_w2 : w1.heap.size < w2.heap.size := by omega); (try have hs_w1p_w2 : w1.heap.size + 1 < w2.heap.size := by omega); (try have hs_w2_w2 : w2.heap.size < w2.heap.size := by omega); (try have hs_w2p_w2 : w2.heap.size + 1 < w2.heap.size := by omega); (try have hs_w3_w2 : w3.heap.size < w2.heap.size := by omega); (try have hs_w3p_w2 : w3.heap.size + 1 < w2.heap.size := by omega); (try have hs_w4_w2 : w4.heap.size < w2.heap.size := by omega); (try have hs_w4p_w2 : w4.heap.size + 1 < w2.heap.size := by omega); (try have hs_w5_w2 : w5.heap.size < w2.heap.size := by omega); (try have hs_w5p_w2 : w5.heap.size + 1 < w2.heap.size := by omega); (try have hs_w6_w2 : w6.heap.size < w2.heap.size := by omega); (try have hs_w6p_w2 : w6.heap.size + 1 < w2.heap.size := by omega)))
  have k0 := cell_regrown (w := w2) (a := ⟨w.heap.size + 1, 2, none⟩) (v := .int .i64 la) ((hcw2 (w.heap.size + 1) (2) (by first | omega | (simp <;> omega))).trans (by go_simp))
  refine wp_region_quiet_below (by kernel_rfl) (by kernel_rfl) ?_
  repeat (any_goals (first | go_big_quiet_step (fail) | quiet_step (fail)))
  refine wpQuiet_nil ?_
  intro _ hw'
  obtain ⟨⟨dq, osq⟩, hw''⟩ := hw'
  subst hw''
  have hbw3 := below_regrown w2 dq osq
  generalize grow (redrawn w2 dq) osq = w3 at *
  obtain ⟨hcw3, hfw3⟩ := bcell hbw3
  have hzw3 := hbw3.size
  (try have hs0w3 : w.heap.size < w3.heap.size := by omega); (try have hs1w3 : w.heap.size + 1 < w3.heap.size := by omega); (try have hs2w3 : w.heap.size + 1 + 1 < w3.heap.size := by omega); (try have hs3w3 : w.heap.size + 1 + 1 + 1 < w3.heap.size := by omega); (try have hs_w1_w3 : w1.heap.size < w3.heap.size := by omega); (try have hs_w1p_w3 : w1.heap.size + 1 < w3.heap.size := by omega); (try have hs_w2_w3 : w2.heap.size < w3.heap.size := by omega); (try have hs_w2p_w3 : w2.heap.size + 1 < w3.heap.size := by omega); (try have hs_w3_w3 : w3.heap.size < w3.heap.size := by omega); (try have hs_w3p_w3 : w3.heap.size + 1 < w3.heap.size := by omega); (try have hs_w4_w3 : w4.heap.size < w3.heap.size := by omega); (try have hs_w4p_w3 : w4.heap.size + 1 < w3.heap.size := by omega); (try have hs_w5_w3 : w5.heap.size < w3.heap.size := by omega); (try have hs_w5p_w3 : w5.heap.size + 1 < w3.heap.size := by omega); (try have hs_w6_w3 : w6.heap.size < w3.heap.size := by omega); (try have hs_w6p_w3 : w6.heap.size + 1 < w3.heap.size := by omega)
  clear k0
  go_wp2
  go_ret2
  refine ⟨rfl, ?_⟩
  repeat' (first | (with_reducible refine Below.setCell ?_ ?_ _) | (with_reducible refine Below.alloc ?_ ?_ _) | (with_reducible refine Below.drew ?_) | (with_reducible exact Below.refl _ _) | (with_reducible assumption) | (with_reducible refine Below.trans ?_ (Below.mono (by assumption) ?_)) | omega | (simp <;> omega))

end Go.Proofs.Ytcaadikffaflnaa
