/- The contracts of a step of synchronization. -/
import Derived.Test.YtcaadikffaflnaaV2
namespace Go.Proofs.Ytcaadikffaflnaa
open Go.RowKit Go.Sort

structure SyS where
  m : Int
  th : Int
  la : Int
  pe : Int
  no : Int
  te : Int
  deriving DecidableEq
def SyS.val (s : SyS) : Value := sv s.m s.th s.la s.pe s.no s.te

def expc (T M th no : Int) : Int := if th = T - M - 1 then (M + 1) * no else no
def stepS (T M m th la no te t : Int) : SyS :=
  if m = 1 then (if te = 2 ∧ gapB M no (t - la) = true then ⟨2, 0, t, t - la, (t - la) / (M + 1), 0⟩ else ⟨1, 0, t, t - la, t - la, if te ≠ 0 ∧ fitsB (t - la) no = true then 2 else 1⟩)
  else if m = 2 then (if fitsB (t - la) (expc T M th no) = false then ⟨0, 0, 0, 0, 0, 0⟩ else if th = T - M - 1 then ⟨2, 0, t, t - la, (t - la) / (M + 1), 0⟩ else ⟨2, th + 1, t, t - la, t - la, 0⟩)
  else ⟨1, 0, t, 0, 0, 0⟩

theorem last_any (T M m th la pe no te : Int) (w : World) (h : wvld T M = true) : Calls Try.prog 40 #[wv T M, sv m th la pe no te] w fun e w' => e = .returned (.bool (decide (th = T - M - 1))) ∧ Below w.heap.size w w' := by
  obtain ⟨h1, h2, h3, h4, _⟩ := wvld_bd h
  have HW := Lib.hid h
  go_enter Try.func40, Try.ntmps40
  go_wp2_with fail
  refine wp_world ?_
  intro w1 hbw1
  obtain ⟨hcw1, hfw1⟩ := bcell hbw1
  have hzw1 := hbw1.size
  (try simp at hzw1)
  (try have hs0w1 : w.heap.size < w1.heap.size := by omega); (try have hs1w1 : w.heap.size + 1 < w1.heap.size := by omega); (try have hs2w1 : w.heap.size + 1 + 1 < w1.heap.size := by omega); (try have hs3w1 : w.heap.size + 1 + 1 + 1 < w1.heap.size := by omega); (try have hs_w1_w1 : w1.heap.size < w1.heap.size := by omega); (try have hs_w1p_w1 : w1.heap.size + 1 < w1.heap.size := by omega); (try have hs_w2_w1 : w2.heap.size < w1.heap.size := by omega); (try have hs_w2p_w1 : w2.heap.size + 1 < w1.heap.size := by omega); (try have hs_w3_w1 : w3.heap.size < w1.heap.size := by omega); (try have hs_w3p_w1 : w3.heap.size + 1 < w1.heap.size := by omega); (try have hs_w4_w1 : w4.heap.size < w1.heap.size := by omega); (try have hs_w4p_w1 : w4.heap.size + 1 < w1.heap.size := by omega); (try have hs_w5_w1 : w5.heap.size < w1.heap.size := by omega); (try have hs_w5p_w1 : w5.heap.size + 1 < w1.heap.size := by omega); (try have hs_w6_w1 : w6.heap.size < w1.heap.size := by omega); (try have hs_w6p_w1 : w6.heap.size + 1 < w1.heap.size := by omega)
  have k0 := cell_regrown (w := w1) (a := ⟨w.heap.size, 0, none⟩) (v := .int .i64 T) (by rw [hcw1 _ _ (by simp <;> omega)]; (try go_simp))
  have k1 := cell_regrown (w := w1) (a := ⟨w.heap.size, 1, none⟩) (v := .int .i64 M) (by rw [hcw1 _ _ (by simp <;> omega)]; (try go_simp))
  have q1 := cell_regrown (w := w1) (a := ⟨w.heap.size + 1, 1, none⟩) (v := .int .i64 th) (by rw [hcw1 _ _ (by simp <;> omega)]; (try go_simp))
  refine wp_region_quiet_below (by kernel_rfl) (by kernel_rfl) ?_
  repeat (any_goals (first | go_big_quiet_step ((first | exact Calls.regrown_of (wteeth_ok _ _ _ HW.out))) | quiet_step ((first | exact Calls.regrown_of (wteeth_ok _ _ _ HW.out))) | (refine wpQuiet_step (fun K hK => ?_); go_simp; split <;> (refine hK _ ?_; clear hK K))))
  all_goals (refine wpQuiet_nil ?_; intro _ hw'; obtain ⟨⟨dq, osq⟩, hw''⟩ := hw'; subst hw''; have hbw2 := below_regrown w1 dq osq; generalize grow (redrawn w1 dq) osq = w2 at *; obtain ⟨hcw2, hfw2⟩ := bcell hbw2; have hzw2 := hbw2.size; (try have hs0w2 : w.heap.size < w2.heap.size := by omega); (try have hs1w2 : w.heap.size + 1 < w2.heap.size := by omega); (try have hs2w2 : w.heap.size + 1 + 1 < w2.heap.size := by omega); (try have hs3w2 : w.heap.size + 1 + 1 + 1 < w2.heap.size := by omega); (try have hs_w1_w2 : w1.heap.size < w2.heap.size := by omega); (try have hs_w1p_w2 : w1.heap.size + 1 < w2.heap.size := by omega); (try have hs_w2_w2 : w2.heap.size < w2.heap.size := by omega); (try have hs_w2p_w2 : w2.heap.size + 1 < w2.heap.size := by omega); (try have hs_w3_w2 : w3.heap.size < w2.heap.size := by omega); (try have hs_w3p_w2 : w3.heap.size + 1 < w2.heap.size := by omega); (try have hs_w4_w2 : w4.heap.size < w2.heap.size := by omega); (try have hs_w4p_w2 : w4.heap.size + 1 < w2.heap.size := by omega); (try have hs_w5_w2 : w5.heap.size < w2.heap.size := by omega); (try have hs_w5p_w2 : w5.heap.size + 1 < w2.heap.size := by omega); (try have hs_w6_w2 : w6.heap.size < w2.heap.size := by omega); (try have hs_w6p_w2 : w6.heap.size + 1 < w2.heap.size := by omega))
  clear k0 k1 q1
  go_wp2
  go_ret
  refine ⟨ret_bool (by simp), ?_⟩
  repeat' (first | exact Below.refl _ _ | assumption | (refine Below.setCell ?_ (by first | omega | (simp <;> omega)) _) | (refine Below.alloc ?_ (by first | omega | (simp <;> omega)) _) | (refine Below.drew ?_) | (refine Below.trans ?_ (Below.mono (by assumption) (by first | omega | (simp <;> omega)))))

theorem expected_any (T M m th la pe no te : Int) (w : World) (h : wvld T M = true) (hn0 : 0 ≤ no) (hn1 : no ≤ 1099511627776) : Calls Try.prog 38 #[wv T M, sv m th la pe no te] w fun e w' => e = .returned (.int .i64 (expc T M th no)) ∧ Below w.heap.size w w' := by
  obtain ⟨h1, h2, h3, h4, _⟩ := wvld_bd h
  have HW := Lib.hid h
  by_cases hl : th = T - M - 1
  · have e1 : expc T M th no = (M + 1) * no := by unfold expc; rw [if_pos hl]
    have e2 : decide (th = T - M - 1) = true := by simpa using hl
    rw [e1]
    have hM : M = 1 ∨ M = 2 := by omega
    clear e1 hl
    rcases hM with rfl | rfl
    all_goals
      go_enter Try.func38, Try.ntmps38
      go_wp2_with (go_at_call 40; refine (last_any _ _ _ _ _ _ _ _ _ HW.out).mono ?_; rintro e w1 ⟨rfl, hbw1⟩; obtain ⟨hcw1, hfw1⟩ := bcell hbw1; have hzw1 := hbw1.size; (try simp at hzw1); (try have hs0w1 : w.heap.size < w1.heap.size := by omega); (try have hs1w1 : w.heap.size + 1 < w1.heap.size := by omega); (try have hs2w1 : w.heap.size + 1 + 1 < w1.heap.size := by omega); (try have hs3w1 : w.heap.size + 1 + 1 + 1 < w1.heap.size := by omega); (try have hs_w1_w1 : w1.heap.size < w1.heap.size := by omega); (try have hs_w1p_w1 : w1.heap.size + 1 < w1.heap.size := by omega); (try have hs_w2_w1 : w2.heap.size < w1.heap.size := by omega); (try have hs_w2p_w1 : w2.heap.size + 1 < w1.heap.size := by omega); (try have hs_w3_w1 : w3.heap.size < w1.heap.size := by omega); (try have hs_w3p_w1 : w3.heap.size + 1 < w1.heap.size := by omega); (try have hs_w4_w1 : w4.heap.size < w1.heap.size := by omega); (try have hs_w4p_w1 : w4.heap.size + 1 < w1.heap.size := by omega); (try have hs_w5_w1 : w5.heap.size < w1.heap.size := by omega); (try have hs_w5p_w1 : w5.heap.size + 1 < w1.heap.size := by omega); (try have hs_w6_w1 : w6.heap.size < w1.heap.size := by omega); (try have hs_w6p_w1 : w6.heap.size + 1 < w1.heap.size := by omega))
      go_ret
      refine ⟨ret_int (by omega), ?_⟩
      repeat' (first | exact Below.refl _ _ | assumption | (refine Below.setCell ?_ (by first | omega | (simp <;> omega)) _) | (refine Below.alloc ?_ (by first | omega | (simp <;> omega)) _) | (refine Below.drew ?_) | (refine Below.trans ?_ (Below.mono (by assumption) (by first | omega | (simp <;> omega)))))
  · have e1 : expc T M th no = no := by unfold expc; rw [if_neg hl]
    have e2 : decide (th = T - M - 1) = false := by simpa using hl
    rw [e1]
    clear e1 hl
    go_enter Try.func38, Try.ntmps38
    go_wp2_with (go_at_call 40; refine (last_any _ _ _ _ _ _ _ _ _ HW.out).mono ?_; rintro e w1 ⟨rfl, hbw1⟩; obtain ⟨hcw1, hfw1⟩ := bcell hbw1; have hzw1 := hbw1.size; (try simp at hzw1); (try have hs0w1 : w.heap.size < w1.heap.size := by omega); (try have hs1w1 : w.heap.size + 1 < w1.heap.size := by omega); (try have hs2w1 : w.heap.size + 1 + 1 < w1.heap.size := by omega); (try have hs3w1 : w.heap.size + 1 + 1 + 1 < w1.heap.size := by omega); (try have hs_w1_w1 : w1.heap.size < w1.heap.size := by omega); (try have hs_w1p_w1 : w1.heap.size + 1 < w1.heap.size := by omega); (try have hs_w2_w1 : w2.heap.size < w1.heap.size := by omega); (try have hs_w2p_w1 : w2.heap.size + 1 < w1.heap.size := by omega); (try have hs_w3_w1 : w3.heap.size < w1.heap.size := by omega); (try have hs_w3p_w1 : w3.heap.size + 1 < w1.heap.size := by omega); (try have hs_w4_w1 : w4.heap.size < w1.heap.size := by omega); (try have hs_w4p_w1 : w4.heap.size + 1 < w1.heap.size := by omega); (try have hs_w5_w1 : w5.heap.size < w1.heap.size := by omega); (try have hs_w5p_w1 : w5.heap.size + 1 < w1.heap.size := by omega); (try have hs_w6_w1 : w6.heap.size < w1.heap.size := by omega); (try have hs_w6p_w1 : w6.heap.size + 1 < w1.heap.size := by omega))
    go_ret
    refine ⟨rfl, ?_⟩
    repeat' (first | exact Below.refl _ _ | assumption | (refine Below.setCell ?_ (by first | omega | (simp <;> omega)) _) | (refine Below.alloc ?_ (by first | omega | (simp <;> omega)) _) | (refine Below.drew ?_) | (refine Below.trans ?_ (Below.mono (by assumption) (by first | omega | (simp <;> omega)))))

theorem rexpected_any (T M m th la pe no te : Int) (w : World) (h : wvld T M = true) (hn0 : 0 ≤ no) (hn1 : no ≤ 1099511627776) : Calls Try.prog 37 #[wv T M, sv m th la pe no te] w fun e w' => e = .returned (.int .i64 (expc T M th no)) ∧ Below w.heap.size w w' := by
  obtain ⟨h1, h2, h3, h4, _⟩ := wvld_bd h
  have HW := Lib.hid h
  by_cases hl : th = T - M - 1
  · have e1 : expc T M th no = (M + 1) * no := by unfold expc; rw [if_pos hl]
    have e2 : (th == T - M - 1) = true := by simpa using hl
    rw [e1]
    have hM : M = 1 ∨ M = 2 := by omega
    clear e1 hl
    rcases hM with rfl | rfl
    · go_enter Try.func37, Try.ntmps37
      go_wp2_with fail
      refine wp_world ?_
      intro w1 hbw1
      obtain ⟨hcw1, hfw1⟩ := bcell hbw1
      have hzw1 := hbw1.size
      (try simp at hzw1)
      (try have hs0w1 : w.heap.size < w1.heap.size := by omega); (try have hs1w1 : w.heap.size + 1 < w1.heap.size := by omega); (try have hs2w1 : w.heap.size + 1 + 1 < w1.heap.size := by omega); (try have hs3w1 : w.heap.size + 1 + 1 + 1 < w1.heap.size := by omega); (try have hs_w1_w1 : w1.heap.size < w1.heap.size := by omega); (try have hs_w1p_w1 : w1.heap.size + 1 < w1.heap.size := by omega); (try have hs_w2_w1 : w2.heap.size < w1.heap.size := by omega); (try have hs_w2p_w1 : w2.heap.size + 1 < w1.heap.size := by omega); (try have hs_w3_w1 : w3.heap.size < w1.heap.size := by omega); (try have hs_w3p_w1 : w3.heap.size + 1 < w1.heap.size := by omega); (try have hs_w4_w1 : w4.heap.size < w1.heap.size := by omega); (try have hs_w4p_w1 : w4.heap.size + 1 < w1.heap.size := by omega); (try have hs_w5_w1 : w5.heap.size < w1.heap.size := by omega); (try have hs_w5p_w1 : w5.heap.size + 1 < w1.heap.size := by omega); (try have hs_w6_w1 : w6.heap.size < w1.heap.size := by omega); (try have hs_w6p_w1 : w6.heap.size + 1 < w1.heap.size := by omega)
      have k0 := cell_regrown (w := w1) (a := ⟨w.heap.size, 0, none⟩) (v := .int .i64 T) (by rw [hcw1 _ _ (by simp <;> omega)]; (try go_simp))
      have k1 := cell_regrown (w := w1) (a := ⟨w.heap.size, 1, none⟩) (v := .int .i64 1) (by rw [hcw1 _ _ (by simp <;> omega)]; (try go_simp))
      have q1 := cell_regrown (w := w1) (a := ⟨w.heap.size + 1, 1, none⟩) (v := .int .i64 th) (by rw [hcw1 _ _ (by simp <;> omega)]; (try go_simp))
      refine wp_region_quiet_below (by kernel_rfl) (by kernel_rfl) ?_
      repeat (any_goals (first | go_big_quiet_step ((first | exact Calls.regrown_of (rwteeth_ok _ _ _ HW.out))) | quiet_step ((first | exact Calls.regrown_of (rwteeth_ok _ _ _ HW.out))) | (refine wpQuiet_step (fun K hK => ?_); go_simp; split <;> (refine hK _ ?_; clear hK K))))
      all_goals (refine wpQuiet_nil ?_; intro _ hw'; obtain ⟨⟨dq, osq⟩, hw''⟩ := hw'; subst hw''; have hbw2 := below_regrown w1 dq osq; generalize grow (redrawn w1 dq) osq = w2 at *; obtain ⟨hcw2, hfw2⟩ := bcell hbw2; have hzw2 := hbw2.size; (try have hs0w2 : w.heap.size < w2.heap.size := by omega); (try have hs1w2 : w.heap.size + 1 < w2.heap.size := by omega); (try have hs2w2 : w.heap.size + 1 + 1 < w2.heap.size := by omega); (try have hs3w2 : w.heap.size + 1 + 1 + 1 < w2.heap.size := by omega); (try have hs_w1_w2 : w1.heap.size < w2.heap.size := by omega); (try have hs_w1p_w2 : w1.heap.size + 1 < w2.heap.size := by omega); (try have hs_w2_w2 : w2.heap.size < w2.heap.size := by omega); (try have hs_w2p_w2 : w2.heap.size + 1 < w2.heap.size := by omega); (try have hs_w3_w2 : w3.heap.size < w2.heap.size := by omega); (try have hs_w3p_w2 : w3.heap.size + 1 < w2.heap.size := by omega); (try have hs_w4_w2 : w4.heap.size < w2.heap.size := by omega); (try have hs_w4p_w2 : w4.heap.size + 1 < w2.heap.size := by omega); (try have hs_w5_w2 : w5.heap.size < w2.heap.size := by omega); (try have hs_w5p_w2 : w5.heap.size + 1 < w2.heap.size := by omega); (try have hs_w6_w2 : w6.heap.size < w2.heap.size := by omega); (try have hs_w6p_w2 : w6.heap.size + 1 < w2.heap.size := by omega))
      clear k0 k1 q1
      go_wp2
      go_ret
      refine ⟨ret_int (by omega), ?_⟩
      repeat' (first | exact Below.refl _ _ | assumption | (refine Below.setCell ?_ (by first | omega | (simp <;> omega)) _) | (refine Below.alloc ?_ (by first | omega | (simp <;> omega)) _) | (refine Below.drew ?_) | (refine Below.trans ?_ (Below.mono (by assumption) (by first | omega | (simp <;> omega)))))
    · go_enter Try.func37, Try.ntmps37
      go_wp2_with fail
      refine wp_world ?_
      intro w1 hbw1
      obtain ⟨hcw1, hfw1⟩ := bcell hbw1
      have hzw1 := hbw1.size
      (try simp at hzw1)
      (try have hs0w1 : w.heap.size < w1.heap.size := by omega); (try have hs1w1 : w.heap.size + 1 < w1.heap.size := by omega); (try have hs2w1 : w.heap.size + 1 + 1 < w1.heap.size := by omega); (try have hs3w1 : w.heap.size + 1 + 1 + 1 < w1.heap.size := by omega); (try have hs_w1_w1 : w1.heap.size < w1.heap.size := by omega); (try have hs_w1p_w1 : w1.heap.size + 1 < w1.heap.size := by omega); (try have hs_w2_w1 : w2.heap.size < w1.heap.size := by omega); (try have hs_w2p_w1 : w2.heap.size + 1 < w1.heap.size := by omega); (try have hs_w3_w1 : w3.heap.size < w1.heap.size := by omega); (try have hs_w3p_w1 : w3.heap.size + 1 < w1.heap.size := by omega); (try have hs_w4_w1 : w4.heap.size < w1.heap.size := by omega); (try have hs_w4p_w1 : w4.heap.size + 1 < w1.heap.size := by omega); (try have hs_w5_w1 : w5.heap.size < w1.heap.size := by omega); (try have hs_w5p_w1 : w5.heap.size + 1 < w1.heap.size := by omega); (try have hs_w6_w1 : w6.heap.size < w1.heap.size := by omega); (try have hs_w6p_w1 : w6.heap.size + 1 < w1.heap.size := by omega)
      have k0 := cell_regrown (w := w1) (a := ⟨w.heap.size, 0, none⟩) (v := .int .i64 T) (by rw [hcw1 _ _ (by simp <;> omega)]; (try go_simp))
      have k1 := cell_regrown (w := w1) (a := ⟨w.heap.size, 1, none⟩) (v := .int .i64 2) (by rw [hcw1 _ _ (by simp <;> omega)]; (try go_simp))
      have q1 := cell_regrown (w := w1) (a := ⟨w.heap.size + 1, 1, none⟩) (v := .int .i64 th) (by rw [hcw1 _ _ (by simp <;> omega)]; (try go_simp))
      refine wp_region_quiet_below (by kernel_rfl) (by kernel_rfl) ?_
      repeat (any_goals (first | go_big_quiet_step ((first | exact Calls.regrown_of (rwteeth_ok _ _ _ HW.out))) | quiet_step ((first | exact Calls.regrown_of (rwteeth_ok _ _ _ HW.out))) | (refine wpQuiet_step (fun K hK => ?_); go_simp; split <;> (refine hK _ ?_; clear hK K))))
      all_goals (refine wpQuiet_nil ?_; intro _ hw'; obtain ⟨⟨dq, osq⟩, hw''⟩ := hw'; subst hw''; have hbw2 := below_regrown w1 dq osq; generalize grow (redrawn w1 dq) osq = w2 at *; obtain ⟨hcw2, hfw2⟩ := bcell hbw2; have hzw2 := hbw2.size; (try have hs0w2 : w.heap.size < w2.heap.size := by omega); (try have hs1w2 : w.heap.size + 1 < w2.heap.size := by omega); (try have hs2w2 : w.heap.size + 1 + 1 < w2.heap.size := by omega); (try have hs3w2 : w.heap.size + 1 + 1 + 1 < w2.heap.size := by omega); (try have hs_w1_w2 : w1.heap.size < w2.heap.size := by omega); (try have hs_w1p_w2 : w1.heap.size + 1 < w2.heap.size := by omega); (try have hs_w2_w2 : w2.heap.size < w2.heap.size := by omega); (try have hs_w2p_w2 : w2.heap.size + 1 < w2.heap.size := by omega); (try have hs_w3_w2 : w3.heap.size < w2.heap.size := by omega); (try have hs_w3p_w2 : w3.heap.size + 1 < w2.heap.size := by omega); (try have hs_w4_w2 : w4.heap.size < w2.heap.size := by omega); (try have hs_w4p_w2 : w4.heap.size + 1 < w2.heap.size := by omega); (try have hs_w5_w2 : w5.heap.size < w2.heap.size := by omega); (try have hs_w5p_w2 : w5.heap.size + 1 < w2.heap.size := by omega); (try have hs_w6_w2 : w6.heap.size < w2.heap.size := by omega); (try have hs_w6p_w2 : w6.heap.size + 1 < w2.heap.size := by omega))
      clear k0 k1 q1
      go_wp2
      go_ret
      refine ⟨ret_int (by omega), ?_⟩
      repeat' (first | exact Below.refl _ _ | assumption | (refine Below.setCell ?_ (by first | omega | (simp <;> omega)) _) | (refine Below.alloc ?_ (by first | omega | (simp <;> omega)) _) | (refine Below.drew ?_) | (refine Below.trans ?_ (Below.mono (by assumption) (by first | omega | (simp <;> omega)))))
  · have e1 : expc T M th no = no := by unfold expc; rw [if_neg hl]
    have e2 : (th == T - M - 1) = false := by simpa using hl
    rw [e1]
    clear e1 hl
    go_enter Try.func37, Try.ntmps37
    go_wp2_with fail
    refine wp_world ?_
    intro w1 hbw1
    obtain ⟨hcw1, hfw1⟩ := bcell hbw1
    have hzw1 := hbw1.size
    (try simp at hzw1)
    (try have hs0w1 : w.heap.size < w1.heap.size := by omega); (try have hs1w1 : w.heap.size + 1 < w1.heap.size := by omega); (try have hs2w1 : w.heap.size + 1 + 1 < w1.heap.size := by omega); (try have hs3w1 : w.heap.size + 1 + 1 + 1 < w1.heap.size := by omega); (try have hs_w1_w1 : w1.heap.size < w1.heap.size := by omega); (try have hs_w1p_w1 : w1.heap.size + 1 < w1.heap.size := by omega); (try have hs_w2_w1 : w2.heap.size < w1.heap.size := by omega); (try have hs_w2p_w1 : w2.heap.size + 1 < w1.heap.size := by omega); (try have hs_w3_w1 : w3.heap.size < w1.heap.size := by omega); (try have hs_w3p_w1 : w3.heap.size + 1 < w1.heap.size := by omega); (try have hs_w4_w1 : w4.heap.size < w1.heap.size := by omega); (try have hs_w4p_w1 : w4.heap.size + 1 < w1.heap.size := by omega); (try have hs_w5_w1 : w5.heap.size < w1.heap.size := by omega); (try have hs_w5p_w1 : w5.heap.size + 1 < w1.heap.size := by omega); (try have hs_w6_w1 : w6.heap.size < w1.heap.size := by omega); (try have hs_w6p_w1 : w6.heap.size + 1 < w1.heap.size := by omega)
    have k0 := cell_regrown (w := w1) (a := ⟨w.heap.size, 0, none⟩) (v := .int .i64 T) (by rw [hcw1 _ _ (by simp <;> omega)]; (try go_simp))
    have k1 := cell_regrown (w := w1) (a := ⟨w.heap.size, 1, none⟩) (v := .int .i64 M) (by rw [hcw1 _ _ (by simp <;> omega)]; (try go_simp))
    have q1 := cell_regrown (w := w1) (a := ⟨w.heap.size + 1, 1, none⟩) (v := .int .i64 th) (by rw [hcw1 _ _ (by simp <;> omega)]; (try go_simp))
    refine wp_region_quiet_below (by kernel_rfl) (by kernel_rfl) ?_
    repeat (any_goals (first | go_big_quiet_step ((first | exact Calls.regrown_of (rwteeth_ok _ _ _ HW.out))) | quiet_step ((first | exact Calls.regrown_of (rwteeth_ok _ _ _ HW.out))) | (refine wpQuiet_step (fun K hK => ?_); go_simp; split <;> (refine hK _ ?_; clear hK K))))
    all_goals (refine wpQuiet_nil ?_; intro _ hw'; obtain ⟨⟨dq, osq⟩, hw''⟩ := hw'; subst hw''; have hbw2 := below_regrown w1 dq osq; generalize grow (redrawn w1 dq) osq = w2 at *; obtain ⟨hcw2, hfw2⟩ := bcell hbw2; have hzw2 := hbw2.size; (try have hs0w2 : w.heap.size < w2.heap.size := by omega); (try have hs1w2 : w.heap.size + 1 < w2.heap.size := by omega); (try have hs2w2 : w.heap.size + 1 + 1 < w2.heap.size := by omega); (try have hs3w2 : w.heap.size + 1 + 1 + 1 < w2.heap.size := by omega); (try have hs_w1_w2 : w1.heap.size < w2.heap.size := by omega); (try have hs_w1p_w2 : w1.heap.size + 1 < w2.heap.size := by omega); (try have hs_w2_w2 : w2.heap.size < w2.heap.size := by omega); (try have hs_w2p_w2 : w2.heap.size + 1 < w2.heap.size := by omega); (try have hs_w3_w2 : w3.heap.size < w2.heap.size := by omega); (try have hs_w3p_w2 : w3.heap.size + 1 < w2.heap.size := by omega); (try have hs_w4_w2 : w4.heap.size < w2.heap.size := by omega); (try have hs_w4p_w2 : w4.heap.size + 1 < w2.heap.size := by omega); (try have hs_w5_w2 : w5.heap.size < w2.heap.size := by omega); (try have hs_w5p_w2 : w5.heap.size + 1 < w2.heap.size := by omega); (try have hs_w6_w2 : w6.heap.size < w2.heap.size := by omega); (try have hs_w6p_w2 : w6.heap.size + 1 < w2.heap.size := by omega))
    clear k0 k1 q1
    go_wp2
    go_ret
    refine ⟨rfl, ?_⟩
    repeat' (first | exact Below.refl _ _ | assumption | (refine Below.setCell ?_ (by first | omega | (simp <;> omega)) _) | (refine Below.alloc ?_ (by first | omega | (simp <;> omega)) _) | (refine Below.drew ?_) | (refine Below.trans ?_ (Below.mono (by assumption) (by first | omega | (simp <;> omega)))))

end Go.Proofs.Ytcaadikffaflnaa
