/- The contracts of sync.Stall and the reference's Patience. -/
import Derived.Test.YtcaadikffaflnaaVf
namespace Go.Proofs.Ytcaadikffaflnaa
open Go.RowKit Go.Sort

/-- How long a state waits. -/
def pat (T M m th pe no : Int) : Int := if m = 2 then 4 * expc T M th no else if pe = 0 then 1000000 else 4 * no

/-- The error of Stall. -/
def stallErr (T M m th la pe no te t : Int) : Int := if svld T M m th la pe no te = false then 1 else if isTime t = false then 2 else if m ≠ 0 ∧ t < la then 16 else 0

theorem stall_err (T M m th la pe no te t : Int) (er : Int) (w : World) (he : stallErr T M m th la pe no te t = er) (h0 : er ≠ 0) : Calls Try.prog 26 #[wv T M, sv m th la pe no te, .int .i64 t] w fun e w' => e = .returned (.tuple #[sv 0 0 0 0 0 0, .int .i64 er]) ∧ Below w.heap.size w w' := by
  unfold stallErr at he
  by_cases hv : svld T M m th la pe no te = true
  · rw [if_neg (by rw [hv]; decide)] at he
    by_cases ht : isTime t = true
    · rw [if_neg (by rw [ht]; decide)] at he
      by_cases hl : m ≠ 0 ∧ t < la
      · rw [if_pos hl] at he
        obtain ⟨hl1, hl2⟩ := hl
        have e1 : (m != 0) = true := by rw [bne_iff_ne]; exact hl1
        subst he
        clear h0
        go_enter Try.func26, Try.ntmps26
        go_wp2_with (first
          | (go_at_call 17; refine (svalid_any _ _ _ _ _ _ _ _ _).mono ?_; rintro e w1 ⟨rfl, hbw1⟩; obtain ⟨hcw1, hfw1⟩ := bcell hbw1; have hzw1 := hbw1.size; (try simp at hzw1); (try have hs0w1 : w.heap.size < w1.heap.size := by omega); (try have hs1w1 : w.heap.size + 1 < w1.heap.size := by omega); (try have hs2w1 : w.heap.size + 1 + 1 < w1.heap.size := by omega); (try have hs3w1 : w.heap.size + 1 + 1 + 1 < w1.heap.size := by omega); (try have hs_w1_w1 : w1.heap.size < w1.heap.size := by omega); (try have hs_w1p_w1 : w1.heap.size + 1 < w1.heap.size := by omega); (try have hs_w2_w1 : w2.heap.size < w1.heap.size := by omega); (try have hs_w2p_w1 : w2.heap.size + 1 < w1.heap.size := by omega); (try have hs_w3_w1 : w3.heap.size < w1.heap.size := by omega); (try have hs_w3p_w1 : w3.heap.size + 1 < w1.heap.size := by omega); (try have hs_w4_w1 : w4.heap.size < w1.heap.size := by omega); (try have hs_w4p_w1 : w4.heap.size + 1 < w1.heap.size := by omega); (try have hs_w5_w1 : w5.heap.size < w1.heap.size := by omega); (try have hs_w5p_w1 : w5.heap.size + 1 < w1.heap.size := by omega); (try have hs_w6_w1 : w6.heap.size < w1.heap.size := by omega); (try have hs_w6p_w1 : w6.heap.size + 1 < w1.heap.size := by omega))
          | (go_at_call 31; refine (time_any _ _).mono ?_; rintro e w1 ⟨rfl, rfl⟩))
        refine bodyPost_ret (v := .tuple #[sv 0 0 0 0 0 0, .int .i64 16]) (by simp [results, Try.results26, go_sem, *]) rfl ?_
        refine ⟨rfl, ?_⟩
        repeat' (first | (with_reducible refine Below.setCell ?_ ?_ _) | (with_reducible refine Below.alloc ?_ ?_ _) | (with_reducible refine Below.drew ?_) | (with_reducible exact Below.refl _ _) | (with_reducible assumption) | (with_reducible refine Below.trans ?_ (Below.mono (by assumption) ?_)) | omega | (simp <;> omega))
      · rw [if_neg hl] at he
        exact absurd he.symm h0
    · have ht' : isTime t = false := by simpa using ht
      rw [if_pos ht'] at he
      subst he
      clear ht h0
      go_enter Try.func26, Try.ntmps26
      go_wp2_with (first
        | (go_at_call 17; refine (svalid_any _ _ _ _ _ _ _ _ _).mono ?_; rintro e w1 ⟨rfl, hbw1⟩; obtain ⟨hcw1, hfw1⟩ := bcell hbw1; have hzw1 := hbw1.size; (try simp at hzw1); (try have hs0w1 : w.heap.size < w1.heap.size := by omega); (try have hs1w1 : w.heap.size + 1 < w1.heap.size := by omega); (try have hs2w1 : w.heap.size + 1 + 1 < w1.heap.size := by omega); (try have hs3w1 : w.heap.size + 1 + 1 + 1 < w1.heap.size := by omega); (try have hs_w1_w1 : w1.heap.size < w1.heap.size := by omega); (try have hs_w1p_w1 : w1.heap.size + 1 < w1.heap.size := by omega); (try have hs_w2_w1 : w2.heap.size < w1.heap.size := by omega); (try have hs_w2p_w1 : w2.heap.size + 1 < w1.heap.size := by omega); (try have hs_w3_w1 : w3.heap.size < w1.heap.size := by omega); (try have hs_w3p_w1 : w3.heap.size + 1 < w1.heap.size := by omega); (try have hs_w4_w1 : w4.heap.size < w1.heap.size := by omega); (try have hs_w4p_w1 : w4.heap.size + 1 < w1.heap.size := by omega); (try have hs_w5_w1 : w5.heap.size < w1.heap.size := by omega); (try have hs_w5p_w1 : w5.heap.size + 1 < w1.heap.size := by omega); (try have hs_w6_w1 : w6.heap.size < w1.heap.size := by omega); (try have hs_w6p_w1 : w6.heap.size + 1 < w1.heap.size := by omega))
        | (go_at_call 31; refine (time_any _ _).mono ?_; rintro e w1 ⟨rfl, rfl⟩))
      refine bodyPost_ret (v := .tuple #[sv 0 0 0 0 0 0, .int .i64 2]) (by simp [results, Try.results26, go_sem, *]) rfl ?_
      refine ⟨rfl, ?_⟩
      repeat' (first | (with_reducible refine Below.setCell ?_ ?_ _) | (with_reducible refine Below.alloc ?_ ?_ _) | (with_reducible refine Below.drew ?_) | (with_reducible exact Below.refl _ _) | (with_reducible assumption) | (with_reducible refine Below.trans ?_ (Below.mono (by assumption) ?_)) | omega | (simp <;> omega))
  · have hv' : svld T M m th la pe no te = false := by simpa using hv
    rw [if_pos hv'] at he
    subst he
    clear hv h0
    go_enter Try.func26, Try.ntmps26
    go_wp2_with (go_at_call 17; refine (svalid_any _ _ _ _ _ _ _ _ _).mono ?_; rintro e w1 ⟨rfl, hbw1⟩; obtain ⟨hcw1, hfw1⟩ := bcell hbw1; have hzw1 := hbw1.size; (try simp at hzw1); (try have hs0w1 : w.heap.size < w1.heap.size := by omega); (try have hs1w1 : w.heap.size + 1 < w1.heap.size := by omega); (try have hs2w1 : w.heap.size + 1 + 1 < w1.heap.size := by omega); (try have hs3w1 : w.heap.size + 1 + 1 + 1 < w1.heap.size := by omega); (try have hs_w1_w1 : w1.heap.size < w1.heap.size := by omega); (try have hs_w1p_w1 : w1.heap.size + 1 < w1.heap.size := by omega); (try have hs_w2_w1 : w2.heap.size < w1.heap.size := by omega); (try have hs_w2p_w1 : w2.heap.size + 1 < w1.heap.size := by omega); (try have hs_w3_w1 : w3.heap.size < w1.heap.size := by omega); (try have hs_w3p_w1 : w3.heap.size + 1 < w1.heap.size := by omega); (try have hs_w4_w1 : w4.heap.size < w1.heap.size := by omega); (try have hs_w4p_w1 : w4.heap.size + 1 < w1.heap.size := by omega); (try have hs_w5_w1 : w5.heap.size < w1.heap.size := by omega); (try have hs_w5p_w1 : w5.heap.size + 1 < w1.heap.size := by omega); (try have hs_w6_w1 : w6.heap.size < w1.heap.size := by omega); (try have hs_w6p_w1 : w6.heap.size + 1 < w1.heap.size := by omega))
    refine bodyPost_ret (v := .tuple #[sv 0 0 0 0 0 0, .int .i64 1]) (by simp [results, Try.results26, go_sem, *]) rfl ?_
    refine ⟨rfl, ?_⟩
    repeat' (first | (with_reducible refine Below.setCell ?_ ?_ _) | (with_reducible refine Below.alloc ?_ ?_ _) | (with_reducible refine Below.drew ?_) | (with_reducible exact Below.refl _ _) | (with_reducible assumption) | (with_reducible refine Below.trans ?_ (Below.mono (by assumption) ?_)) | omega | (simp <;> omega))

theorem pat_any (T M m th la pe no te : Int) (w : World) (hv : svld T M m th la pe no te = true) : Calls Try.prog 27 #[wv T M, sv m th la pe no te] w fun e w' => e = .returned (.int .i64 (pat T M m th pe no)) ∧ Below w.heap.size w w' := by
  obtain ⟨hw, hc⟩ := svld_cases hv
  have HW := Lib.hid hw
  have hn : 0 ≤ no ∧ no ≤ 1099511627776 := by omega
  obtain ⟨n0, n1⟩ := hn
  obtain ⟨x0, x1⟩ := expc_bd (th := th) hw n0 n1
  by_cases h2 : m = 2
  · subst h2
    have e : pat T M 2 th pe no = 4 * expc T M th no := rfl
    rw [e]
    obtain ⟨q, hq⟩ : ∃ q, q = expc T M th no := ⟨_, rfl⟩
    rw [← hq] at x0 x1 ⊢
    have HQ := Lib.hid hq
    clear hw hc hq e
    go_enter Try.func27, Try.ntmps27
    go_wp2_with (go_at_call 37; refine (rexpected_any _ _ _ _ _ _ _ _ _ HW.out n0 n1).mono ?_; rw [← HQ.out]; rintro e w2 ⟨rfl, hbw2⟩; obtain ⟨hcw2, hfw2⟩ := bcell hbw2; have hzw2 := hbw2.size; (try simp at hzw2); (try have hs0w2 : w.heap.size < w2.heap.size := by omega); (try have hs1w2 : w.heap.size + 1 < w2.heap.size := by omega); (try have hs2w2 : w.heap.size + 1 + 1 < w2.heap.size := by omega); (try have hs3w2 : w.heap.size + 1 + 1 + 1 < w2.heap.size := by omega); (try have hs_w1_w2 : w1.heap.size < w2.heap.size := by omega); (try have hs_w1p_w2 : w1.heap.size + 1 < w2.heap.size := by omega); (try have hs_w2_w2 : w2.heap.size < w2.heap.size := by omega); (try have hs_w2p_w2 : w2.heap.size + 1 < w2.heap.size := by omega); (try have hs_w3_w2 : w3.heap.size < w2.heap.size := by omega); (try have hs_w3p_w2 : w3.heap.size + 1 < w2.heap.size := by omega); (try have hs_w4_w2 : w4.heap.size < w2.heap.size := by omega); (try have hs_w4p_w2 : w4.heap.size + 1 < w2.heap.size := by omega); (try have hs_w5_w2 : w5.heap.size < w2.heap.size := by omega); (try have hs_w5p_w2 : w5.heap.size + 1 < w2.heap.size := by omega); (try have hs_w6_w2 : w6.heap.size < w2.heap.size := by omega); (try have hs_w6p_w2 : w6.heap.size + 1 < w2.heap.size := by omega))
    go_ret
    refine ⟨rfl, ?_⟩
    repeat' (first | (with_reducible refine Below.setCell ?_ ?_ _) | (with_reducible refine Below.alloc ?_ ?_ _) | (with_reducible refine Below.drew ?_) | (with_reducible exact Below.refl _ _) | (with_reducible assumption) | (with_reducible refine Below.trans ?_ (Below.mono (by assumption) ?_)) | omega | (simp <;> omega))
  · have e2 : (m == 2) = false := by rw [beq_eq_false_iff_ne]; exact h2
    by_cases h0 : pe = 0
    · have e : pat T M m th pe no = 1000000 := by unfold pat; rw [if_neg h2, if_pos h0]
      rw [e]
      subst h0
      clear e hc h2
      go_enter Try.func27, Try.ntmps27
      go_wp2
      go_ret
      refine ⟨rfl, ?_⟩
      repeat' (first | (with_reducible refine Below.setCell ?_ ?_ _) | (with_reducible refine Below.alloc ?_ ?_ _) | (with_reducible refine Below.drew ?_) | (with_reducible exact Below.refl _ _) | (with_reducible assumption) | (with_reducible refine Below.trans ?_ (Below.mono (by assumption) ?_)) | omega | (simp <;> omega))
    · have e : pat T M m th pe no = 4 * no := by unfold pat; rw [if_neg h2, if_neg h0]
      have e3 : (pe == 0) = false := by rw [beq_eq_false_iff_ne]; exact h0
      rw [e]
      clear e hc h2 h0
      go_enter Try.func27, Try.ntmps27
      go_wp2
      go_ret
      refine ⟨rfl, ?_⟩
      repeat' (first | (with_reducible refine Below.setCell ?_ ?_ _) | (with_reducible refine Below.alloc ?_ ?_ _) | (with_reducible refine Below.drew ?_) | (with_reducible exact Below.refl _ _) | (with_reducible assumption) | (with_reducible refine Below.trans ?_ (Below.mono (by assumption) ?_)) | omega | (simp <;> omega))

set_option maxHeartbeats 1000000 in
theorem stall_ok (T M m th la pe no te t : Int) (w : World) (hv : svld T M m th la pe no te = true) (ht : isTime t = true) (hlt : m ≠ 0 → la ≤ t) {s0 s1 s2 s3 s4 s5 : Int}
    (hs : (⟨s0, s1, s2, s3, s4, s5⟩ : SyS) = if m ≠ 0 ∧ pat T M m th pe no < t - la then ⟨0, 0, 0, 0, 0, 0⟩ else ⟨m, th, la, pe, no, te⟩) :
    Calls Try.prog 26 #[wv T M, sv m th la pe no te, .int .i64 t] w fun e w' => e = .returned (.tuple #[sv s0 s1 s2 s3 s4 s5, .int .i64 0]) ∧ Below w.heap.size w w' := by
  obtain ⟨hw, hc⟩ := svld_cases hv
  have HW := Lib.hid hw
  have hb : 0 ≤ la ∧ la ≤ 1099511627776 ∧ 0 ≤ no ∧ no ≤ 1099511627776 := by omega
  obtain ⟨l0, l1, n0, n1⟩ := hb
  obtain ⟨t0, t1⟩ := time_bd ht
  obtain ⟨x0, x1⟩ := expc_bd (th := th) hw n0 n1
  rcases hc with ⟨rfl, rfl, rfl, rfl, rfl, rfl⟩ | ⟨rfl, rfl, _, _, hc⟩ | ⟨rfl, th0, th1, _, _, p0, p1, _, _, rfl⟩
  · rw [if_neg (by simp)] at hs
    simp only [SyS.mk.injEq] at hs
    obtain ⟨rfl, rfl, rfl, rfl, rfl, rfl⟩ := hs
    clear hlt hw
    go_enter Try.func26, Try.ntmps26
    go_wp2_with (first
      | (go_at_call 17; refine (svalid_any _ _ _ _ _ _ _ _ _).mono ?_; rintro e w1 ⟨rfl, hbw1⟩; obtain ⟨hcw1, hfw1⟩ := bcell hbw1; have hzw1 := hbw1.size; (try simp at hzw1); (try have hs0w1 : w.heap.size < w1.heap.size := by omega); (try have hs1w1 : w.heap.size + 1 < w1.heap.size := by omega); (try have hs2w1 : w.heap.size + 1 + 1 < w1.heap.size := by omega); (try have hs3w1 : w.heap.size + 1 + 1 + 1 < w1.heap.size := by omega); (try have hs_w1_w1 : w1.heap.size < w1.heap.size := by omega); (try have hs_w1p_w1 : w1.heap.size + 1 < w1.heap.size := by omega); (try have hs_w2_w1 : w2.heap.size < w1.heap.size := by omega); (try have hs_w2p_w1 : w2.heap.size + 1 < w1.heap.size := by omega); (try have hs_w3_w1 : w3.heap.size < w1.heap.size := by omega); (try have hs_w3p_w1 : w3.heap.size + 1 < w1.heap.size := by omega); (try have hs_w4_w1 : w4.heap.size < w1.heap.size := by omega); (try have hs_w4p_w1 : w4.heap.size + 1 < w1.heap.size := by omega); (try have hs_w5_w1 : w5.heap.size < w1.heap.size := by omega); (try have hs_w5p_w1 : w5.heap.size + 1 < w1.heap.size := by omega); (try have hs_w6_w1 : w6.heap.size < w1.heap.size := by omega); (try have hs_w6p_w1 : w6.heap.size + 1 < w1.heap.size := by omega))
      | (go_at_call 31; refine (time_any _ _).mono ?_; rintro e w1 ⟨rfl, rfl⟩))
    refine bodyPost_ret (v := .tuple #[sv 0 0 0 0 0 0, .int .i64 0]) (by simp [results, Try.results26, go_sem, *]) rfl ?_
    refine ⟨rfl, ?_⟩
    repeat' (first | (with_reducible refine Below.setCell ?_ ?_ _) | (with_reducible refine Below.alloc ?_ ?_ _) | (with_reducible refine Below.drew ?_) | (with_reducible exact Below.refl _ _) | (with_reducible assumption) | (with_reducible refine Below.trans ?_ (Below.mono (by assumption) ?_)) | omega | (simp <;> omega))
  · have hlt2 := hlt (by decide)
    rcases hc with ⟨rfl, rfl, rfl⟩ | ⟨p0, p1, rfl, hte⟩
    · have ep : pat T M 1 0 0 0 = 1000000 := rfl
      rw [ep] at hs
      by_cases hp : 1000000 < t - la
      · rw [if_pos ⟨by decide, hp⟩] at hs
        simp only [SyS.mk.injEq] at hs
        obtain ⟨rfl, rfl, rfl, rfl, rfl, rfl⟩ := hs
        clear hlt hw ep x0 x1
        go_enter Try.func26, Try.ntmps26
        go_wp2_with (first
          | (go_at_call 17; refine (svalid_any _ _ _ _ _ _ _ _ _).mono ?_; rintro e w1 ⟨rfl, hbw1⟩; obtain ⟨hcw1, hfw1⟩ := bcell hbw1; have hzw1 := hbw1.size; (try simp at hzw1); (try have hs0w1 : w.heap.size < w1.heap.size := by omega); (try have hs1w1 : w.heap.size + 1 < w1.heap.size := by omega); (try have hs2w1 : w.heap.size + 1 + 1 < w1.heap.size := by omega); (try have hs3w1 : w.heap.size + 1 + 1 + 1 < w1.heap.size := by omega); (try have hs_w1_w1 : w1.heap.size < w1.heap.size := by omega); (try have hs_w1p_w1 : w1.heap.size + 1 < w1.heap.size := by omega); (try have hs_w2_w1 : w2.heap.size < w1.heap.size := by omega); (try have hs_w2p_w1 : w2.heap.size + 1 < w1.heap.size := by omega); (try have hs_w3_w1 : w3.heap.size < w1.heap.size := by omega); (try have hs_w3p_w1 : w3.heap.size + 1 < w1.heap.size := by omega); (try have hs_w4_w1 : w4.heap.size < w1.heap.size := by omega); (try have hs_w4p_w1 : w4.heap.size + 1 < w1.heap.size := by omega); (try have hs_w5_w1 : w5.heap.size < w1.heap.size := by omega); (try have hs_w5p_w1 : w5.heap.size + 1 < w1.heap.size := by omega); (try have hs_w6_w1 : w6.heap.size < w1.heap.size := by omega); (try have hs_w6p_w1 : w6.heap.size + 1 < w1.heap.size := by omega))
          | (go_at_call 31; refine (time_any _ _).mono ?_; rintro e w1 ⟨rfl, rfl⟩))
        refine bodyPost_ret (v := .tuple #[sv 0 0 0 0 0 0, .int .i64 0]) (by simp [results, Try.results26, go_sem, *]) rfl ?_
        refine ⟨rfl, ?_⟩
        repeat' (first | (with_reducible refine Below.setCell ?_ ?_ _) | (with_reducible refine Below.alloc ?_ ?_ _) | (with_reducible refine Below.drew ?_) | (with_reducible exact Below.refl _ _) | (with_reducible assumption) | (with_reducible refine Below.trans ?_ (Below.mono (by assumption) ?_)) | omega | (simp <;> omega))
      · rw [if_neg (fun h => hp h.2)] at hs
        simp only [SyS.mk.injEq] at hs
        obtain ⟨rfl, rfl, rfl, rfl, rfl, rfl⟩ := hs
        clear hlt hw ep x0 x1
        go_enter Try.func26, Try.ntmps26
        go_wp2_with (first
          | (go_at_call 17; refine (svalid_any _ _ _ _ _ _ _ _ _).mono ?_; rintro e w1 ⟨rfl, hbw1⟩; obtain ⟨hcw1, hfw1⟩ := bcell hbw1; have hzw1 := hbw1.size; (try simp at hzw1); (try have hs0w1 : w.heap.size < w1.heap.size := by omega); (try have hs1w1 : w.heap.size + 1 < w1.heap.size := by omega); (try have hs2w1 : w.heap.size + 1 + 1 < w1.heap.size := by omega); (try have hs3w1 : w.heap.size + 1 + 1 + 1 < w1.heap.size := by omega); (try have hs_w1_w1 : w1.heap.size < w1.heap.size := by omega); (try have hs_w1p_w1 : w1.heap.size + 1 < w1.heap.size := by omega); (try have hs_w2_w1 : w2.heap.size < w1.heap.size := by omega); (try have hs_w2p_w1 : w2.heap.size + 1 < w1.heap.size := by omega); (try have hs_w3_w1 : w3.heap.size < w1.heap.size := by omega); (try have hs_w3p_w1 : w3.heap.size + 1 < w1.heap.size := by omega); (try have hs_w4_w1 : w4.heap.size < w1.heap.size := by omega); (try have hs_w4p_w1 : w4.heap.size + 1 < w1.heap.size := by omega); (try have hs_w5_w1 : w5.heap.size < w1.heap.size := by omega); (try have hs_w5p_w1 : w5.heap.size + 1 < w1.heap.size := by omega); (try have hs_w6_w1 : w6.heap.size < w1.heap.size := by omega); (try have hs_w6p_w1 : w6.heap.size + 1 < w1.heap.size := by omega))
          | (go_at_call 31; refine (time_any _ _).mono ?_; rintro e w1 ⟨rfl, rfl⟩))
        refine bodyPost_ret (v := .tuple #[sv 1 0 s2 0 0 0, .int .i64 0]) (by simp [results, Try.results26, go_sem, *]) rfl ?_
        refine ⟨rfl, ?_⟩
        repeat' (first | (with_reducible refine Below.setCell ?_ ?_ _) | (with_reducible refine Below.alloc ?_ ?_ _) | (with_reducible refine Below.drew ?_) | (with_reducible exact Below.refl _ _) | (with_reducible assumption) | (with_reducible refine Below.trans ?_ (Below.mono (by assumption) ?_)) | omega | (simp <;> omega))
    · have ep : pat T M 1 0 no no = 4 * no := by unfold pat; rw [if_neg (by decide), if_neg (by omega)]
      have hte0 : 0 < te := by omega
      rw [ep] at hs
      by_cases hp : 4 * no < t - la
      · rw [if_pos ⟨by decide, hp⟩] at hs
        simp only [SyS.mk.injEq] at hs
        obtain ⟨rfl, rfl, rfl, rfl, rfl, rfl⟩ := hs
        clear hlt hw ep x0 x1 hte
        go_enter Try.func26, Try.ntmps26
        go_wp2_with (first
          | (go_at_call 17; refine (svalid_any _ _ _ _ _ _ _ _ _).mono ?_; rintro e w1 ⟨rfl, hbw1⟩; obtain ⟨hcw1, hfw1⟩ := bcell hbw1; have hzw1 := hbw1.size; (try simp at hzw1); (try have hs0w1 : w.heap.size < w1.heap.size := by omega); (try have hs1w1 : w.heap.size + 1 < w1.heap.size := by omega); (try have hs2w1 : w.heap.size + 1 + 1 < w1.heap.size := by omega); (try have hs3w1 : w.heap.size + 1 + 1 + 1 < w1.heap.size := by omega); (try have hs_w1_w1 : w1.heap.size < w1.heap.size := by omega); (try have hs_w1p_w1 : w1.heap.size + 1 < w1.heap.size := by omega); (try have hs_w2_w1 : w2.heap.size < w1.heap.size := by omega); (try have hs_w2p_w1 : w2.heap.size + 1 < w1.heap.size := by omega); (try have hs_w3_w1 : w3.heap.size < w1.heap.size := by omega); (try have hs_w3p_w1 : w3.heap.size + 1 < w1.heap.size := by omega); (try have hs_w4_w1 : w4.heap.size < w1.heap.size := by omega); (try have hs_w4p_w1 : w4.heap.size + 1 < w1.heap.size := by omega); (try have hs_w5_w1 : w5.heap.size < w1.heap.size := by omega); (try have hs_w5p_w1 : w5.heap.size + 1 < w1.heap.size := by omega); (try have hs_w6_w1 : w6.heap.size < w1.heap.size := by omega); (try have hs_w6p_w1 : w6.heap.size + 1 < w1.heap.size := by omega))
          | (go_at_call 31; refine (time_any _ _).mono ?_; rintro e w1 ⟨rfl, rfl⟩))
        refine bodyPost_ret (v := .tuple #[sv 0 0 0 0 0 0, .int .i64 0]) (by simp [results, Try.results26, go_sem, *]) rfl ?_
        refine ⟨rfl, ?_⟩
        repeat' (first | (with_reducible refine Below.setCell ?_ ?_ _) | (with_reducible refine Below.alloc ?_ ?_ _) | (with_reducible refine Below.drew ?_) | (with_reducible exact Below.refl _ _) | (with_reducible assumption) | (with_reducible refine Below.trans ?_ (Below.mono (by assumption) ?_)) | omega | (simp <;> omega))
      · rw [if_neg (fun h => hp h.2)] at hs
        simp only [SyS.mk.injEq] at hs
        obtain ⟨rfl, rfl, q1, q2, q3, q4⟩ := hs
        subst q1 q2 q3 q4
        clear hlt hw ep x0 x1 hte
        go_enter Try.func26, Try.ntmps26
        go_wp2_with (first
          | (go_at_call 17; refine (svalid_any _ _ _ _ _ _ _ _ _).mono ?_; rintro e w1 ⟨rfl, hbw1⟩; obtain ⟨hcw1, hfw1⟩ := bcell hbw1; have hzw1 := hbw1.size; (try simp at hzw1); (try have hs0w1 : w.heap.size < w1.heap.size := by omega); (try have hs1w1 : w.heap.size + 1 < w1.heap.size := by omega); (try have hs2w1 : w.heap.size + 1 + 1 < w1.heap.size := by omega); (try have hs3w1 : w.heap.size + 1 + 1 + 1 < w1.heap.size := by omega); (try have hs_w1_w1 : w1.heap.size < w1.heap.size := by omega); (try have hs_w1p_w1 : w1.heap.size + 1 < w1.heap.size := by omega); (try have hs_w2_w1 : w2.heap.size < w1.heap.size := by omega); (try have hs_w2p_w1 : w2.heap.size + 1 < w1.heap.size := by omega); (try have hs_w3_w1 : w3.heap.size < w1.heap.size := by omega); (try have hs_w3p_w1 : w3.heap.size + 1 < w1.heap.size := by omega); (try have hs_w4_w1 : w4.heap.size < w1.heap.size := by omega); (try have hs_w4p_w1 : w4.heap.size + 1 < w1.heap.size := by omega); (try have hs_w5_w1 : w5.heap.size < w1.heap.size := by omega); (try have hs_w5p_w1 : w5.heap.size + 1 < w1.heap.size := by omega); (try have hs_w6_w1 : w6.heap.size < w1.heap.size := by omega); (try have hs_w6p_w1 : w6.heap.size + 1 < w1.heap.size := by omega))
          | (go_at_call 31; refine (time_any _ _).mono ?_; rintro e w1 ⟨rfl, rfl⟩))
        refine bodyPost_ret (v := .tuple #[sv 1 0 s2 s4 s4 s5, .int .i64 0]) (by simp [results, Try.results26, go_sem, *]) rfl ?_
        refine ⟨rfl, ?_⟩
        repeat' (first | (with_reducible refine Below.setCell ?_ ?_ _) | (with_reducible refine Below.alloc ?_ ?_ _) | (with_reducible refine Below.drew ?_) | (with_reducible exact Below.refl _ _) | (with_reducible assumption) | (with_reducible refine Below.trans ?_ (Below.mono (by assumption) ?_)) | omega | (simp <;> omega))
  · have hlt2 := hlt (by decide)
    have ep : pat T M 2 th pe no = 4 * expc T M th no := rfl
    rw [ep] at hs
    obtain ⟨q, hq⟩ : ∃ q, q = expc T M th no := ⟨_, rfl⟩
    rw [← hq] at x0 x1 hs
    have HQ := Lib.hid hq
    by_cases hp : 4 * q < t - la
    · rw [if_pos ⟨by decide, hp⟩] at hs
      simp only [SyS.mk.injEq] at hs
      obtain ⟨rfl, rfl, rfl, rfl, rfl, rfl⟩ := hs
      clear hlt hw ep hq
      go_enter Try.func26, Try.ntmps26
      go_wp2_with (first
        | (go_at_call 17; refine (svalid_any _ _ _ _ _ _ _ _ _).mono ?_; rintro e w1 ⟨rfl, hbw1⟩; obtain ⟨hcw1, hfw1⟩ := bcell hbw1; have hzw1 := hbw1.size; (try simp at hzw1); (try have hs0w1 : w.heap.size < w1.heap.size := by omega); (try have hs1w1 : w.heap.size + 1 < w1.heap.size := by omega); (try have hs2w1 : w.heap.size + 1 + 1 < w1.heap.size := by omega); (try have hs3w1 : w.heap.size + 1 + 1 + 1 < w1.heap.size := by omega); (try have hs_w1_w1 : w1.heap.size < w1.heap.size := by omega); (try have hs_w1p_w1 : w1.heap.size + 1 < w1.heap.size := by omega); (try have hs_w2_w1 : w2.heap.size < w1.heap.size := by omega); (try have hs_w2p_w1 : w2.heap.size + 1 < w1.heap.size := by omega); (try have hs_w3_w1 : w3.heap.size < w1.heap.size := by omega); (try have hs_w3p_w1 : w3.heap.size + 1 < w1.heap.size := by omega); (try have hs_w4_w1 : w4.heap.size < w1.heap.size := by omega); (try have hs_w4p_w1 : w4.heap.size + 1 < w1.heap.size := by omega); (try have hs_w5_w1 : w5.heap.size < w1.heap.size := by omega); (try have hs_w5p_w1 : w5.heap.size + 1 < w1.heap.size := by omega); (try have hs_w6_w1 : w6.heap.size < w1.heap.size := by omega); (try have hs_w6p_w1 : w6.heap.size + 1 < w1.heap.size := by omega))
        | (go_at_call 31; refine (time_any _ _).mono ?_; rintro e w1 ⟨rfl, rfl⟩)
        | (go_at_call 38; refine (expected_any _ _ _ _ _ _ _ _ _ HW.out n0 n1).mono ?_; rw [← HQ.out]; rintro e w2 ⟨rfl, hbw2⟩; obtain ⟨hcw2, hfw2⟩ := bcell hbw2; have hzw2 := hbw2.size; (try simp at hzw2); (try have hs0w2 : w.heap.size < w2.heap.size := by omega); (try have hs1w2 : w.heap.size + 1 < w2.heap.size := by omega); (try have hs2w2 : w.heap.size + 1 + 1 < w2.heap.size := by omega); (try have hs3w2 : w.heap.size + 1 + 1 + 1 < w2.heap.size := by omega); (try have hs_w1_w2 : w1.heap.size < w2.heap.size := by omega); (try have hs_w1p_w2 : w1.heap.size + 1 < w2.heap.size := by omega); (try have hs_w2_w2 : w2.heap.size < w2.heap.size := by omega); (try have hs_w2p_w2 : w2.heap.size + 1 < w2.heap.size := by omega); (try have hs_w3_w2 : w3.heap.size < w2.heap.size := by omega); (try have hs_w3p_w2 : w3.heap.size + 1 < w2.heap.size := by omega); (try have hs_w4_w2 : w4.heap.size < w2.heap.size := by omega); (try have hs_w4p_w2 : w4.heap.size + 1 < w2.heap.size := by omega); (try have hs_w5_w2 : w5.heap.size < w2.heap.size := by omega); (try have hs_w5p_w2 : w5.heap.size + 1 < w2.heap.size := by omega); (try have hs_w6_w2 : w6.heap.size < w2.heap.size := by omega); (try have hs_w6p_w2 : w6.heap.size + 1 < w2.heap.size := by omega)))
      refine bodyPost_ret (v := .tuple #[sv 0 0 0 0 0 0, .int .i64 0]) (by simp [results, Try.results26, go_sem, *]) rfl ?_
      refine ⟨rfl, ?_⟩
      repeat' (first | (with_reducible refine Below.setCell ?_ ?_ _) | (with_reducible refine Below.alloc ?_ ?_ _) | (with_reducible refine Below.drew ?_) | (with_reducible exact Below.refl _ _) | (with_reducible assumption) | (with_reducible refine Below.trans ?_ (Below.mono (by assumption) ?_)) | omega | (simp <;> omega))
    · rw [if_neg (fun h => hp h.2)] at hs
      simp only [SyS.mk.injEq] at hs
      obtain ⟨rfl, rfl, rfl, rfl, rfl, rfl⟩ := hs
      clear hlt hw ep hq
      go_enter Try.func26, Try.ntmps26
      go_wp2_with (first
        | (go_at_call 17; refine (svalid_any _ _ _ _ _ _ _ _ _).mono ?_; rintro e w1 ⟨rfl, hbw1⟩; obtain ⟨hcw1, hfw1⟩ := bcell hbw1; have hzw1 := hbw1.size; (try simp at hzw1); (try have hs0w1 : w.heap.size < w1.heap.size := by omega); (try have hs1w1 : w.heap.size + 1 < w1.heap.size := by omega); (try have hs2w1 : w.heap.size + 1 + 1 < w1.heap.size := by omega); (try have hs3w1 : w.heap.size + 1 + 1 + 1 < w1.heap.size := by omega); (try have hs_w1_w1 : w1.heap.size < w1.heap.size := by omega); (try have hs_w1p_w1 : w1.heap.size + 1 < w1.heap.size := by omega); (try have hs_w2_w1 : w2.heap.size < w1.heap.size := by omega); (try have hs_w2p_w1 : w2.heap.size + 1 < w1.heap.size := by omega); (try have hs_w3_w1 : w3.heap.size < w1.heap.size := by omega); (try have hs_w3p_w1 : w3.heap.size + 1 < w1.heap.size := by omega); (try have hs_w4_w1 : w4.heap.size < w1.heap.size := by omega); (try have hs_w4p_w1 : w4.heap.size + 1 < w1.heap.size := by omega); (try have hs_w5_w1 : w5.heap.size < w1.heap.size := by omega); (try have hs_w5p_w1 : w5.heap.size + 1 < w1.heap.size := by omega); (try have hs_w6_w1 : w6.heap.size < w1.heap.size := by omega); (try have hs_w6p_w1 : w6.heap.size + 1 < w1.heap.size := by omega))
        | (go_at_call 31; refine (time_any _ _).mono ?_; rintro e w1 ⟨rfl, rfl⟩)
        | (go_at_call 38; refine (expected_any _ _ _ _ _ _ _ _ _ HW.out n0 n1).mono ?_; rw [← HQ.out]; rintro e w2 ⟨rfl, hbw2⟩; obtain ⟨hcw2, hfw2⟩ := bcell hbw2; have hzw2 := hbw2.size; (try simp at hzw2); (try have hs0w2 : w.heap.size < w2.heap.size := by omega); (try have hs1w2 : w.heap.size + 1 < w2.heap.size := by omega); (try have hs2w2 : w.heap.size + 1 + 1 < w2.heap.size := by omega); (try have hs3w2 : w.heap.size + 1 + 1 + 1 < w2.heap.size := by omega); (try have hs_w1_w2 : w1.heap.size < w2.heap.size := by omega); (try have hs_w1p_w2 : w1.heap.size + 1 < w2.heap.size := by omega); (try have hs_w2_w2 : w2.heap.size < w2.heap.size := by omega); (try have hs_w2p_w2 : w2.heap.size + 1 < w2.heap.size := by omega); (try have hs_w3_w2 : w3.heap.size < w2.heap.size := by omega); (try have hs_w3p_w2 : w3.heap.size + 1 < w2.heap.size := by omega); (try have hs_w4_w2 : w4.heap.size < w2.heap.size := by omega); (try have hs_w4p_w2 : w4.heap.size + 1 < w2.heap.size := by omega); (try have hs_w5_w2 : w5.heap.size < w2.heap.size := by omega); (try have hs_w5p_w2 : w5.heap.size + 1 < w2.heap.size := by omega); (try have hs_w6_w2 : w6.heap.size < w2.heap.size := by omega); (try have hs_w6p_w2 : w6.heap.size + 1 < w2.heap.size := by omega)))
      refine bodyPost_ret (v := .tuple #[sv 2 s1 s2 s3 s4 0, .int .i64 0]) (by simp [results, Try.results26, go_sem, *]) rfl ?_
      refine ⟨rfl, ?_⟩
      repeat' (first | (with_reducible refine Below.setCell ?_ ?_ _) | (with_reducible refine Below.alloc ?_ ?_ _) | (with_reducible refine Below.drew ?_) | (with_reducible exact Below.refl _ _) | (with_reducible assumption) | (with_reducible refine Below.trans ?_ (Below.mono (by assumption) ?_)) | omega | (simp <;> omega))

end Go.Proofs.Ytcaadikffaflnaa
