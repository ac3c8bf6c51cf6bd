/- SyncStalls: Stall gives up after the time that is specified, or returns the specified error. No conditions. The walk of the law. -/
import Derived.Test.YtcaadikffaflnaaVh
import Derived.Test.YtcaadikffaflnaaVi
import Derived.Test.YtcaadikffaflnaaV3
namespace Go.Proofs.Ytcaadikffaflnaa
open Go.RowKit Go.Sort

set_option maxHeartbeats 1000000 in
theorem stalls_err (T M m th la pe no te t er : Int) (w : World) (he : stallErr T M m th la pe no te t = er) (h0 : er ≠ 0) : Calls Try.prog 8 #[wv T M, sv m th la pe no te, .int .i64 t] w fun e w' => e = .returned (.bool true) ∧ Below w.heap.size w w' := by
  have HE := Lib.hid he
  have H0 := Lib.hid h0
  unfold stallErr at he
  by_cases hv : svld T M m th la pe no te = true
  · rw [if_neg (by rw [hv]; decide)] at he
    by_cases ht : isTime t = true
    · rw [if_neg (by rw [ht]; decide)] at he
      by_cases hl : m ≠ 0 ∧ t < la
      · rw [if_pos hl] at he
        obtain ⟨hl1, hl2⟩ := hl
        have e1 : (m != 0) = true := by rw [bne_iff_ne]; exact hl1
        subst he
        clear h0 hl1
        go_enter Try.func8, Try.ntmps8
        go_wp2_with (first
          | (go_at_call 9; refine (awake_any _).mono ?_; rintro e w1 ⟨rfl, hbw1⟩; obtain ⟨hcw1, hfw1⟩ := bcell hbw1; have hzw1 := hbw1.size; (try simp at hzw1); (try have hs0w1 : w.heap.size < w1.heap.size := by omega); (try have hs1w1 : w.heap.size + 1 < w1.heap.size := by omega); (try have hs2w1 : w.heap.size + 1 + 1 < w1.heap.size := by omega); (try have hs3w1 : w.heap.size + 1 + 1 + 1 < w1.heap.size := by omega); (try have hs_w1_w1 : w1.heap.size < w1.heap.size := by omega); (try have hs_w1p_w1 : w1.heap.size + 1 < w1.heap.size := by omega); (try have hs_w2_w1 : w2.heap.size < w1.heap.size := by omega); (try have hs_w2p_w1 : w2.heap.size + 1 < w1.heap.size := by omega); (try have hs_w3_w1 : w3.heap.size < w1.heap.size := by omega); (try have hs_w3p_w1 : w3.heap.size + 1 < w1.heap.size := by omega); (try have hs_w4_w1 : w4.heap.size < w1.heap.size := by omega); (try have hs_w4p_w1 : w4.heap.size + 1 < w1.heap.size := by omega); (try have hs_w5_w1 : w5.heap.size < w1.heap.size := by omega); (try have hs_w5p_w1 : w5.heap.size + 1 < w1.heap.size := by omega); (try have hs_w6_w1 : w6.heap.size < w1.heap.size := by omega); (try have hs_w6p_w1 : w6.heap.size + 1 < w1.heap.size := by omega))
          | (go_at_call 26; refine (stall_err _ _ _ _ _ _ _ _ _ _ _ HE.out H0.out).mono ?_; rintro e w2 ⟨rfl, hbw2⟩; obtain ⟨hcw2, hfw2⟩ := bcell hbw2; have hzw2 := hbw2.size; (try simp at hzw2); (try have hs0w2 : w.heap.size < w2.heap.size := by omega); (try have hs1w2 : w.heap.size + 1 < w2.heap.size := by omega); (try have hs2w2 : w.heap.size + 1 + 1 < w2.heap.size := by omega); (try have hs3w2 : w.heap.size + 1 + 1 + 1 < w2.heap.size := by omega); (try have hs_w1_w2 : w1.heap.size < w2.heap.size := by omega); (try have hs_w1p_w2 : w1.heap.size + 1 < w2.heap.size := by omega); (try have hs_w2_w2 : w2.heap.size < w2.heap.size := by omega); (try have hs_w2p_w2 : w2.heap.size + 1 < w2.heap.size := by omega); (try have hs_w3_w2 : w3.heap.size < w2.heap.size := by omega); (try have hs_w3p_w2 : w3.heap.size + 1 < w2.heap.size := by omega); (try have hs_w4_w2 : w4.heap.size < w2.heap.size := by omega); (try have hs_w4p_w2 : w4.heap.size + 1 < w2.heap.size := by omega); (try have hs_w5_w2 : w5.heap.size < w2.heap.size := by omega); (try have hs_w5p_w2 : w5.heap.size + 1 < w2.heap.size := by omega); (try have hs_w6_w2 : w6.heap.size < w2.heap.size := by omega); (try have hs_w6p_w2 : w6.heap.size + 1 < w2.heap.size := by omega))
          | (go_at_call 18; refine (rsvalid_any _ _ _ _ _ _ _ _ _).mono ?_; rintro e w5 ⟨rfl, hbw5⟩; obtain ⟨hcw5, hfw5⟩ := bcell hbw5; have hzw5 := hbw5.size; (try simp at hzw5); (try have hs0w5 : w.heap.size < w5.heap.size := by omega); (try have hs1w5 : w.heap.size + 1 < w5.heap.size := by omega); (try have hs2w5 : w.heap.size + 1 + 1 < w5.heap.size := by omega); (try have hs3w5 : w.heap.size + 1 + 1 + 1 < w5.heap.size := by omega); (try have hs_w1_w5 : w1.heap.size < w5.heap.size := by omega); (try have hs_w1p_w5 : w1.heap.size + 1 < w5.heap.size := by omega); (try have hs_w2_w5 : w2.heap.size < w5.heap.size := by omega); (try have hs_w2p_w5 : w2.heap.size + 1 < w5.heap.size := by omega); (try have hs_w3_w5 : w3.heap.size < w5.heap.size := by omega); (try have hs_w3p_w5 : w3.heap.size + 1 < w5.heap.size := by omega); (try have hs_w4_w5 : w4.heap.size < w5.heap.size := by omega); (try have hs_w4p_w5 : w4.heap.size + 1 < w5.heap.size := by omega); (try have hs_w5_w5 : w5.heap.size < w5.heap.size := by omega); (try have hs_w5p_w5 : w5.heap.size + 1 < w5.heap.size := by omega); (try have hs_w6_w5 : w6.heap.size < w5.heap.size := by omega); (try have hs_w6p_w5 : w6.heap.size + 1 < w5.heap.size := by omega))
          | (go_at_call 19; refine (rtime_any _ _).mono ?_; rintro e w1 ⟨rfl, rfl⟩))
        go_ret
        refine ⟨rfl, ?_⟩
        repeat' (first | (with_reducible refine Below.setCell ?_ ?_ _) | (with_reducible refine Below.alloc ?_ ?_ _) | (with_reducible refine Below.drew ?_) | (with_reducible exact Below.refl _ _) | (with_reducible assumption) | (with_reducible refine Below.trans ?_ (Below.mono (by assumption) ?_)) | omega | (simp <;> omega))
      · rw [if_neg hl] at he
        exact absurd he.symm h0
    · have ht' : isTime t = false := by simpa using ht
      rw [if_pos ht'] at he
      subst he
      clear ht h0
      go_enter Try.func8, Try.ntmps8
      go_wp2_with (first
        | (go_at_call 9; refine (awake_any _).mono ?_; rintro e w1 ⟨rfl, hbw1⟩; obtain ⟨hcw1, hfw1⟩ := bcell hbw1; have hzw1 := hbw1.size; (try simp at hzw1); (try have hs0w1 : w.heap.size < w1.heap.size := by omega); (try have hs1w1 : w.heap.size + 1 < w1.heap.size := by omega); (try have hs2w1 : w.heap.size + 1 + 1 < w1.heap.size := by omega); (try have hs3w1 : w.heap.size + 1 + 1 + 1 < w1.heap.size := by omega); (try have hs_w1_w1 : w1.heap.size < w1.heap.size := by omega); (try have hs_w1p_w1 : w1.heap.size + 1 < w1.heap.size := by omega); (try have hs_w2_w1 : w2.heap.size < w1.heap.size := by omega); (try have hs_w2p_w1 : w2.heap.size + 1 < w1.heap.size := by omega); (try have hs_w3_w1 : w3.heap.size < w1.heap.size := by omega); (try have hs_w3p_w1 : w3.heap.size + 1 < w1.heap.size := by omega); (try have hs_w4_w1 : w4.heap.size < w1.heap.size := by omega); (try have hs_w4p_w1 : w4.heap.size + 1 < w1.heap.size := by omega); (try have hs_w5_w1 : w5.heap.size < w1.heap.size := by omega); (try have hs_w5p_w1 : w5.heap.size + 1 < w1.heap.size := by omega); (try have hs_w6_w1 : w6.heap.size < w1.heap.size := by omega); (try have hs_w6p_w1 : w6.heap.size + 1 < w1.heap.size := by omega))
        | (go_at_call 26; refine (stall_err _ _ _ _ _ _ _ _ _ _ _ HE.out H0.out).mono ?_; rintro e w2 ⟨rfl, hbw2⟩; obtain ⟨hcw2, hfw2⟩ := bcell hbw2; have hzw2 := hbw2.size; (try simp at hzw2); (try have hs0w2 : w.heap.size < w2.heap.size := by omega); (try have hs1w2 : w.heap.size + 1 < w2.heap.size := by omega); (try have hs2w2 : w.heap.size + 1 + 1 < w2.heap.size := by omega); (try have hs3w2 : w.heap.size + 1 + 1 + 1 < w2.heap.size := by omega); (try have hs_w1_w2 : w1.heap.size < w2.heap.size := by omega); (try have hs_w1p_w2 : w1.heap.size + 1 < w2.heap.size := by omega); (try have hs_w2_w2 : w2.heap.size < w2.heap.size := by omega); (try have hs_w2p_w2 : w2.heap.size + 1 < w2.heap.size := by omega); (try have hs_w3_w2 : w3.heap.size < w2.heap.size := by omega); (try have hs_w3p_w2 : w3.heap.size + 1 < w2.heap.size := by omega); (try have hs_w4_w2 : w4.heap.size < w2.heap.size := by omega); (try have hs_w4p_w2 : w4.heap.size + 1 < w2.heap.size := by omega); (try have hs_w5_w2 : w5.heap.size < w2.heap.size := by omega); (try have hs_w5p_w2 : w5.heap.size + 1 < w2.heap.size := by omega); (try have hs_w6_w2 : w6.heap.size < w2.heap.size := by omega); (try have hs_w6p_w2 : w6.heap.size + 1 < w2.heap.size := by omega))
        | (go_at_call 18; refine (rsvalid_any _ _ _ _ _ _ _ _ _).mono ?_; rintro e w5 ⟨rfl, hbw5⟩; obtain ⟨hcw5, hfw5⟩ := bcell hbw5; have hzw5 := hbw5.size; (try simp at hzw5); (try have hs0w5 : w.heap.size < w5.heap.size := by omega); (try have hs1w5 : w.heap.size + 1 < w5.heap.size := by omega); (try have hs2w5 : w.heap.size + 1 + 1 < w5.heap.size := by omega); (try have hs3w5 : w.heap.size + 1 + 1 + 1 < w5.heap.size := by omega); (try have hs_w1_w5 : w1.heap.size < w5.heap.size := by omega); (try have hs_w1p_w5 : w1.heap.size + 1 < w5.heap.size := by omega); (try have hs_w2_w5 : w2.heap.size < w5.heap.size := by omega); (try have hs_w2p_w5 : w2.heap.size + 1 < w5.heap.size := by omega); (try have hs_w3_w5 : w3.heap.size < w5.heap.size := by omega); (try have hs_w3p_w5 : w3.heap.size + 1 < w5.heap.size := by omega); (try have hs_w4_w5 : w4.heap.size < w5.heap.size := by omega); (try have hs_w4p_w5 : w4.heap.size + 1 < w5.heap.size := by omega); (try have hs_w5_w5 : w5.heap.size < w5.heap.size := by omega); (try have hs_w5p_w5 : w5.heap.size + 1 < w5.heap.size := by omega); (try have hs_w6_w5 : w6.heap.size < w5.heap.size := by omega); (try have hs_w6p_w5 : w6.heap.size + 1 < w5.heap.size := by omega))
        | (go_at_call 19; refine (rtime_any _ _).mono ?_; rintro e w1 ⟨rfl, rfl⟩))
      go_ret
      refine ⟨rfl, ?_⟩
      repeat' (first | (with_reducible refine Below.setCell ?_ ?_ _) | (with_reducible refine Below.alloc ?_ ?_ _) | (with_reducible refine Below.drew ?_) | (with_reducible exact Below.refl _ _) | (with_reducible assumption) | (with_reducible refine Below.trans ?_ (Below.mono (by assumption) ?_)) | omega | (simp <;> omega))
  · have hv' : svld T M m th la pe no te = false := by simpa using hv
    rw [if_pos hv'] at he
    subst he
    clear hv h0
    go_enter Try.func8, Try.ntmps8
    go_wp2_with (first
      | (go_at_call 9; refine (awake_any _).mono ?_; rintro e w1 ⟨rfl, hbw1⟩; obtain ⟨hcw1, hfw1⟩ := bcell hbw1; have hzw1 := hbw1.size; (try simp at hzw1); (try have hs0w1 : w.heap.size < w1.heap.size := by omega); (try have hs1w1 : w.heap.size + 1 < w1.heap.size := by omega); (try have hs2w1 : w.heap.size + 1 + 1 < w1.heap.size := by omega); (try have hs3w1 : w.heap.size + 1 + 1 + 1 < w1.heap.size := by omega); (try have hs_w1_w1 : w1.heap.size < w1.heap.size := by omega); (try have hs_w1p_w1 : w1.heap.size + 1 < w1.heap.size := by omega); (try have hs_w2_w1 : w2.heap.size < w1.heap.size := by omega); (try have hs_w2p_w1 : w2.heap.size + 1 < w1.heap.size := by omega); (try have hs_w3_w1 : w3.heap.size < w1.heap.size := by omega); (try have hs_w3p_w1 : w3.heap.size + 1 < w1.heap.size := by omega); (try have hs_w4_w1 : w4.heap.size < w1.heap.size := by omega); (try have hs_w4p_w1 : w4.heap.size + 1 < w1.heap.size := by omega); (try have hs_w5_w1 : w5.heap.size < w1.heap.size := by omega); (try have hs_w5p_w1 : w5.heap.size + 1 < w1.heap.size := by omega); (try have hs_w6_w1 : w6.heap.size < w1.heap.size := by omega); (try have hs_w6p_w1 : w6.heap.size + 1 < w1.heap.size := by omega))
      | (go_at_call 26; refine (stall_err _ _ _ _ _ _ _ _ _ _ _ HE.out H0.out).mono ?_; rintro e w2 ⟨rfl, hbw2⟩; obtain ⟨hcw2, hfw2⟩ := bcell hbw2; have hzw2 := hbw2.size; (try simp at hzw2); (try have hs0w2 : w.heap.size < w2.heap.size := by omega); (try have hs1w2 : w.heap.size + 1 < w2.heap.size := by omega); (try have hs2w2 : w.heap.size + 1 + 1 < w2.heap.size := by omega); (try have hs3w2 : w.heap.size + 1 + 1 + 1 < w2.heap.size := by omega); (try have hs_w1_w2 : w1.heap.size < w2.heap.size := by omega); (try have hs_w1p_w2 : w1.heap.size + 1 < w2.heap.size := by omega); (try have hs_w2_w2 : w2.heap.size < w2.heap.size := by omega); (try have hs_w2p_w2 : w2.heap.size + 1 < w2.heap.size := by omega); (try have hs_w3_w2 : w3.heap.size < w2.heap.size := by omega); (try have hs_w3p_w2 : w3.heap.size + 1 < w2.heap.size := by omega); (try have hs_w4_w2 : w4.heap.size < w2.heap.size := by omega); (try have hs_w4p_w2 : w4.heap.size + 1 < w2.heap.size := by omega); (try have hs_w5_w2 : w5.heap.size < w2.heap.size := by omega); (try have hs_w5p_w2 : w5.heap.size + 1 < w2.heap.size := by omega); (try have hs_w6_w2 : w6.heap.size < w2.heap.size := by omega); (try have hs_w6p_w2 : w6.heap.size + 1 < w2.heap.size := by omega))
      | (go_at_call 18; refine (rsvalid_any _ _ _ _ _ _ _ _ _).mono ?_; rintro e w5 ⟨rfl, hbw5⟩; obtain ⟨hcw5, hfw5⟩ := bcell hbw5; have hzw5 := hbw5.size; (try simp at hzw5); (try have hs0w5 : w.heap.size < w5.heap.size := by omega); (try have hs1w5 : w.heap.size + 1 < w5.heap.size := by omega); (try have hs2w5 : w.heap.size + 1 + 1 < w5.heap.size := by omega); (try have hs3w5 : w.heap.size + 1 + 1 + 1 < w5.heap.size := by omega); (try have hs_w1_w5 : w1.heap.size < w5.heap.size := by omega); (try have hs_w1p_w5 : w1.heap.size + 1 < w5.heap.size := by omega); (try have hs_w2_w5 : w2.heap.size < w5.heap.size := by omega); (try have hs_w2p_w5 : w2.heap.size + 1 < w5.heap.size := by omega); (try have hs_w3_w5 : w3.heap.size < w5.heap.size := by omega); (try have hs_w3p_w5 : w3.heap.size + 1 < w5.heap.size := by omega); (try have hs_w4_w5 : w4.heap.size < w5.heap.size := by omega); (try have hs_w4p_w5 : w4.heap.size + 1 < w5.heap.size := by omega); (try have hs_w5_w5 : w5.heap.size < w5.heap.size := by omega); (try have hs_w5p_w5 : w5.heap.size + 1 < w5.heap.size := by omega); (try have hs_w6_w5 : w6.heap.size < w5.heap.size := by omega); (try have hs_w6p_w5 : w6.heap.size + 1 < w5.heap.size := by omega))
      | (go_at_call 19; refine (rtime_any _ _).mono ?_; rintro e w1 ⟨rfl, rfl⟩))
    go_ret
    refine ⟨rfl, ?_⟩
    repeat' (first | (with_reducible refine Below.setCell ?_ ?_ _) | (with_reducible refine Below.alloc ?_ ?_ _) | (with_reducible refine Below.drew ?_) | (with_reducible exact Below.refl _ _) | (with_reducible assumption) | (with_reducible refine Below.trans ?_ (Below.mono (by assumption) ?_)) | omega | (simp <;> omega))

set_option maxHeartbeats 1000000 in
theorem pat_is {T M m th la pe no te p : Int} (hp : pat T M m th pe no = p) (w : World) (hv : svld T M m th la pe no te = true) : Calls Try.prog 27 #[wv T M, sv m th la pe no te] w fun e w' => e = .returned (.int .i64 p) ∧ Below w.heap.size w w' := by
  subst hp
  exact pat_any T M m th la pe no te w hv

set_option maxHeartbeats 1000000 in
theorem stalls_lost (T M t : Int) (w : World) (hv : svld T M 0 0 0 0 0 0 = true) (ht : isTime t = true) : Calls Try.prog 8 #[wv T M, sv 0 0 0 0 0 0, .int .i64 t] w fun e w' => e = .returned (.bool true) ∧ Below w.heap.size w w' := by
  have hs : (⟨0, 0, 0, 0, 0, 0⟩ : SyS) = if (0 : Int) ≠ 0 ∧ pat T M 0 0 0 0 < t - 0 then ⟨0, 0, 0, 0, 0, 0⟩ else ⟨0, 0, 0, 0, 0, 0⟩ := by rw [if_neg (by simp)]
  have HS := Lib.hid hs
  have HV := Lib.hid hv
  have HT := Lib.hid ht
  have hlt : (0 : Int) ≠ 0 → (0 : Int) ≤ t := fun h => absurd rfl h
  have HL := Lib.hid hlt
  clear hs hlt
  go_enter Try.func8, Try.ntmps8
  go_wp2_with (first
    | (go_at_call 9; refine (awake_any _).mono ?_; rintro e w1 ⟨rfl, hbw1⟩; obtain ⟨hcw1, hfw1⟩ := bcell hbw1; have hzw1 := hbw1.size; (try simp at hzw1); (try have hs0w1 : w.heap.size < w1.heap.size := by omega); (try have hs1w1 : w.heap.size + 1 < w1.heap.size := by omega); (try have hs2w1 : w.heap.size + 1 + 1 < w1.heap.size := by omega); (try have hs3w1 : w.heap.size + 1 + 1 + 1 < w1.heap.size := by omega); (try have hs_w1_w1 : w1.heap.size < w1.heap.size := by omega); (try have hs_w1p_w1 : w1.heap.size + 1 < w1.heap.size := by omega); (try have hs_w2_w1 : w2.heap.size < w1.heap.size := by omega); (try have hs_w2p_w1 : w2.heap.size + 1 < w1.heap.size := by omega); (try have hs_w3_w1 : w3.heap.size < w1.heap.size := by omega); (try have hs_w3p_w1 : w3.heap.size + 1 < w1.heap.size := by omega); (try have hs_w4_w1 : w4.heap.size < w1.heap.size := by omega); (try have hs_w4p_w1 : w4.heap.size + 1 < w1.heap.size := by omega); (try have hs_w5_w1 : w5.heap.size < w1.heap.size := by omega); (try have hs_w5p_w1 : w5.heap.size + 1 < w1.heap.size := by omega); (try have hs_w6_w1 : w6.heap.size < w1.heap.size := by omega); (try have hs_w6p_w1 : w6.heap.size + 1 < w1.heap.size := by omega))
    | (go_at_call 26; refine (stall_ok _ _ _ _ _ _ _ _ _ _ HV.out HT.out HL.out HS.out).mono ?_; rintro e w2 ⟨rfl, hbw2⟩; obtain ⟨hcw2, hfw2⟩ := bcell hbw2; have hzw2 := hbw2.size; (try simp at hzw2); (try have hs0w2 : w.heap.size < w2.heap.size := by omega); (try have hs1w2 : w.heap.size + 1 < w2.heap.size := by omega); (try have hs2w2 : w.heap.size + 1 + 1 < w2.heap.size := by omega); (try have hs3w2 : w.heap.size + 1 + 1 + 1 < w2.heap.size := by omega); (try have hs_w1_w2 : w1.heap.size < w2.heap.size := by omega); (try have hs_w1p_w2 : w1.heap.size + 1 < w2.heap.size := by omega); (try have hs_w2_w2 : w2.heap.size < w2.heap.size := by omega); (try have hs_w2p_w2 : w2.heap.size + 1 < w2.heap.size := by omega); (try have hs_w3_w2 : w3.heap.size < w2.heap.size := by omega); (try have hs_w3p_w2 : w3.heap.size + 1 < w2.heap.size := by omega); (try have hs_w4_w2 : w4.heap.size < w2.heap.size := by omega); (try have hs_w4p_w2 : w4.heap.size + 1 < w2.heap.size := by omega); (try have hs_w5_w2 : w5.heap.size < w2.heap.size := by omega); (try have hs_w5p_w2 : w5.heap.size + 1 < w2.heap.size := by omega); (try have hs_w6_w2 : w6.heap.size < w2.heap.size := by omega); (try have hs_w6p_w2 : w6.heap.size + 1 < w2.heap.size := by omega))
    | (go_at_call 18; refine (rsvalid_any _ _ _ _ _ _ _ _ _).mono ?_; rintro e w5 ⟨rfl, hbw5⟩; obtain ⟨hcw5, hfw5⟩ := bcell hbw5; have hzw5 := hbw5.size; (try simp at hzw5); (try have hs0w5 : w.heap.size < w5.heap.size := by omega); (try have hs1w5 : w.heap.size + 1 < w5.heap.size := by omega); (try have hs2w5 : w.heap.size + 1 + 1 < w5.heap.size := by omega); (try have hs3w5 : w.heap.size + 1 + 1 + 1 < w5.heap.size := by omega); (try have hs_w1_w5 : w1.heap.size < w5.heap.size := by omega); (try have hs_w1p_w5 : w1.heap.size + 1 < w5.heap.size := by omega); (try have hs_w2_w5 : w2.heap.size < w5.heap.size := by omega); (try have hs_w2p_w5 : w2.heap.size + 1 < w5.heap.size := by omega); (try have hs_w3_w5 : w3.heap.size < w5.heap.size := by omega); (try have hs_w3p_w5 : w3.heap.size + 1 < w5.heap.size := by omega); (try have hs_w4_w5 : w4.heap.size < w5.heap.size := by omega); (try have hs_w4p_w5 : w4.heap.size + 1 < w5.heap.size := by omega); (try have hs_w5_w5 : w5.heap.size < w5.heap.size := by omega); (try have hs_w5p_w5 : w5.heap.size + 1 < w5.heap.size := by omega); (try have hs_w6_w5 : w6.heap.size < w5.heap.size := by omega); (try have hs_w6p_w5 : w6.heap.size + 1 < w5.heap.size := by omega))
    | (go_at_call 19; refine (rtime_any _ _).mono ?_; rintro e w1 ⟨rfl, rfl⟩))
  refine wp_world ?_
  intro w6 hbw6
  obtain ⟨hcw6, hfw6⟩ := bcell hbw6
  have hzw6 := hbw6.size
  (try simp at hzw6)
  (try have hs0w6 : w.heap.size < w6.heap.size := by omega); (try have hs1w6 : w.heap.size + 1 < w6.heap.size := by omega); (try have hs2w6 : w.heap.size + 1 + 1 < w6.heap.size := by omega); (try have hs3w6 : w.heap.size + 1 + 1 + 1 < w6.heap.size := by omega); (try have hs_w1_w6 : w1.heap.size < w6.heap.size := by omega); (try have hs_w1p_w6 : w1.heap.size + 1 < w6.heap.size := by omega); (try have hs_w2_w6 : w2.heap.size < w6.heap.size := by omega); (try have hs_w2p_w6 : w2.heap.size + 1 < w6.heap.size := by omega); (try have hs_w3_w6 : w3.heap.size < w6.heap.size := by omega); (try have hs_w3p_w6 : w3.heap.size + 1 < w6.heap.size := by omega); (try have hs_w4_w6 : w4.heap.size < w6.heap.size := by omega); (try have hs_w4p_w6 : w4.heap.size + 1 < w6.heap.size := by omega); (try have hs_w5_w6 : w5.heap.size < w6.heap.size := by omega); (try have hs_w5p_w6 : w5.heap.size + 1 < w6.heap.size := by omega); (try have hs_w6_w6 : w6.heap.size < w6.heap.size := by omega); (try have hs_w6p_w6 : w6.heap.size + 1 < w6.heap.size := by omega)
  have kT := cell_regrown (w := w6) (a := ⟨w.heap.size, 0, none⟩) (v := .int .i64 T) ((hcw6 (w.heap.size) (0) (by first | omega | (simp <;> omega))).trans (by go_simp))
  have kM := cell_regrown (w := w6) (a := ⟨w.heap.size, 1, none⟩) (v := .int .i64 M) ((hcw6 (w.heap.size) (1) (by first | omega | (simp <;> omega))).trans (by go_simp))
  have kS0 := cell_regrown (w := w6) (a := ⟨w.heap.size + 1, 0, none⟩) (v := .int .i64 0) ((hcw6 (w.heap.size + 1) (0) (by first | omega | (simp <;> omega))).trans (by go_simp))
  have kS1 := cell_regrown (w := w6) (a := ⟨w.heap.size + 1, 1, none⟩) (v := .int .i64 0) ((hcw6 (w.heap.size + 1) (1) (by first | omega | (simp <;> omega))).trans (by go_simp))
  have kS2 := cell_regrown (w := w6) (a := ⟨w.heap.size + 1, 2, none⟩) (v := .int .i64 0) ((hcw6 (w.heap.size + 1) (2) (by first | omega | (simp <;> omega))).trans (by go_simp))
  have kS3 := cell_regrown (w := w6) (a := ⟨w.heap.size + 1, 3, none⟩) (v := .int .i64 0) ((hcw6 (w.heap.size + 1) (3) (by first | omega | (simp <;> omega))).trans (by go_simp))
  have kS4 := cell_regrown (w := w6) (a := ⟨w.heap.size + 1, 4, none⟩) (v := .int .i64 0) ((hcw6 (w.heap.size + 1) (4) (by first | omega | (simp <;> omega))).trans (by go_simp))
  have kS5 := cell_regrown (w := w6) (a := ⟨w.heap.size + 1, 5, none⟩) (v := .int .i64 0) ((hcw6 (w.heap.size + 1) (5) (by first | omega | (simp <;> omega))).trans (by go_simp))
  have kY0 := cell_regrown (w := w6) (a := ⟨w5.heap.size, 0, none⟩) (v := .int .i64 0) ((hcw6 (w5.heap.size) (0) (by first | omega | (simp <;> omega))).trans (by go_simp))
  have kY1 := cell_regrown (w := w6) (a := ⟨w5.heap.size, 1, none⟩) (v := .int .i64 0) ((hcw6 (w5.heap.size) (1) (by first | omega | (simp <;> omega))).trans (by go_simp))
  have kY2 := cell_regrown (w := w6) (a := ⟨w5.heap.size, 2, none⟩) (v := .int .i64 0) ((hcw6 (w5.heap.size) (2) (by first | omega | (simp <;> omega))).trans (by go_simp))
  have kY3 := cell_regrown (w := w6) (a := ⟨w5.heap.size, 3, none⟩) (v := .int .i64 0) ((hcw6 (w5.heap.size) (3) (by first | omega | (simp <;> omega))).trans (by go_simp))
  have kY4 := cell_regrown (w := w6) (a := ⟨w5.heap.size, 4, none⟩) (v := .int .i64 0) ((hcw6 (w5.heap.size) (4) (by first | omega | (simp <;> omega))).trans (by go_simp))
  have kY5 := cell_regrown (w := w6) (a := ⟨w5.heap.size, 5, none⟩) (v := .int .i64 0) ((hcw6 (w5.heap.size) (5) (by first | omega | (simp <;> omega))).trans (by go_simp))
  refine wp_region_quiet_below (by kernel_rfl) (by kernel_rfl) ?_
  repeat (any_goals (first | go_big_quiet_step ((first | exact Calls.regrown_of (pat_any _ _ _ _ _ _ _ _ _ HV.out))) | quiet_step ((first | exact Calls.regrown_of (pat_any _ _ _ _ _ _ _ _ _ HV.out)))))
  refine wpQuiet_nil ?_
  intro _ hw'
  obtain ⟨⟨dq, osq⟩, hw''⟩ := hw'
  subst hw''
  have hbw7 := below_regrown w6 dq osq
  generalize grow (redrawn w6 dq) osq = w7 at *
  obtain ⟨hcw7, hfw7⟩ := bcell hbw7
  have hzw7 := hbw7.size
  (try have hs0w7 : w.heap.size < w7.heap.size := by omega); (try have hs1w7 : w.heap.size + 1 < w7.heap.size := by omega); (try have hs2w7 : w.heap.size + 1 + 1 < w7.heap.size := by omega); (try have hs3w7 : w.heap.size + 1 + 1 + 1 < w7.heap.size := by omega); (try have hs_w1_w7 : w1.heap.size < w7.heap.size := by omega); (try have hs_w1p_w7 : w1.heap.size + 1 < w7.heap.size := by omega); (try have hs_w2_w7 : w2.heap.size < w7.heap.size := by omega); (try have hs_w2p_w7 : w2.heap.size + 1 < w7.heap.size := by omega); (try have hs_w3_w7 : w3.heap.size < w7.heap.size := by omega); (try have hs_w3p_w7 : w3.heap.size + 1 < w7.heap.size := by omega); (try have hs_w4_w7 : w4.heap.size < w7.heap.size := by omega); (try have hs_w4p_w7 : w4.heap.size + 1 < w7.heap.size := by omega); (try have hs_w5_w7 : w5.heap.size < w7.heap.size := by omega); (try have hs_w5p_w7 : w5.heap.size + 1 < w7.heap.size := by omega); (try have hs_w6_w7 : w6.heap.size < w7.heap.size := by omega); (try have hs_w6p_w7 : w6.heap.size + 1 < w7.heap.size := by omega)
  clear kT kM kS0 kS1 kS2 kS3 kS4 kS5 kY0 kY1 kY2 kY3 kY4 kY5
  go_wp2
  go_ret
  refine ⟨rfl, ?_⟩
  repeat' (first | (with_reducible refine Below.setCell ?_ ?_ _) | (with_reducible refine Below.alloc ?_ ?_ _) | (with_reducible refine Below.drew ?_) | (with_reducible exact Below.refl _ _) | (with_reducible assumption) | (with_reducible refine Below.trans ?_ (Below.mono (by assumption) ?_)) | omega | (simp <;> omega))

set_option maxHeartbeats 1000000 in
theorem stalls_gone (T M m th la pe no te t : Int) (w : World) (hv : svld T M m th la pe no te = true) (ht : isTime t = true) (hlt : m ≠ 0 → la ≤ t) (hm : m ≠ 0) {p : Int} (hp : pat T M m th pe no = p) (hl : p < t - la) : Calls Try.prog 8 #[wv T M, sv m th la pe no te, .int .i64 t] w fun e w' => e = .returned (.bool true) ∧ Below w.heap.size w w' := by
  have hs : (⟨0, 0, 0, 0, 0, 0⟩ : SyS) = if m ≠ 0 ∧ pat T M m th pe no < t - la then ⟨0, 0, 0, 0, 0, 0⟩ else ⟨m, th, la, pe, no, te⟩ := by rw [if_pos ⟨hm, hp ▸ hl⟩]
  have HS := Lib.hid hs
  have HV := Lib.hid hv
  have HT := Lib.hid ht
  have HL := Lib.hid hlt
  have HP := Lib.hid hp
  have hlt2 := hlt hm
  have e1 : (m != 0) = true := by rw [bne_iff_ne]; exact hm
  obtain ⟨_, hc⟩ := svld_cases hv
  have hb : 0 ≤ la ∧ la ≤ 1099511627776 := by omega
  obtain ⟨l0, l1⟩ := hb
  obtain ⟨t0, t1⟩ := time_bd ht
  have e2 : decide (p < t - la) = true := decide_eq_true hl
  clear hs hlt hp hm hc
  go_enter Try.func8, Try.ntmps8
  go_wp2_with (first
    | (go_at_call 9; refine (awake_any _).mono ?_; rintro e w1 ⟨rfl, hbw1⟩; obtain ⟨hcw1, hfw1⟩ := bcell hbw1; have hzw1 := hbw1.size; (try simp at hzw1); (try have hs0w1 : w.heap.size < w1.heap.size := by omega); (try have hs1w1 : w.heap.size + 1 < w1.heap.size := by omega); (try have hs2w1 : w.heap.size + 1 + 1 < w1.heap.size := by omega); (try have hs3w1 : w.heap.size + 1 + 1 + 1 < w1.heap.size := by omega); (try have hs_w1_w1 : w1.heap.size < w1.heap.size := by omega); (try have hs_w1p_w1 : w1.heap.size + 1 < w1.heap.size := by omega); (try have hs_w2_w1 : w2.heap.size < w1.heap.size := by omega); (try have hs_w2p_w1 : w2.heap.size + 1 < w1.heap.size := by omega); (try have hs_w3_w1 : w3.heap.size < w1.heap.size := by omega); (try have hs_w3p_w1 : w3.heap.size + 1 < w1.heap.size := by omega); (try have hs_w4_w1 : w4.heap.size < w1.heap.size := by omega); (try have hs_w4p_w1 : w4.heap.size + 1 < w1.heap.size := by omega); (try have hs_w5_w1 : w5.heap.size < w1.heap.size := by omega); (try have hs_w5p_w1 : w5.heap.size + 1 < w1.heap.size := by omega); (try have hs_w6_w1 : w6.heap.size < w1.heap.size := by omega); (try have hs_w6p_w1 : w6.heap.size + 1 < w1.heap.size := by omega))
    | (go_at_call 26; refine (stall_ok _ _ _ _ _ _ _ _ _ _ HV.out HT.out HL.out HS.out).mono ?_; rintro e w2 ⟨rfl, hbw2⟩; obtain ⟨hcw2, hfw2⟩ := bcell hbw2; have hzw2 := hbw2.size; (try simp at hzw2); (try have hs0w2 : w.heap.size < w2.heap.size := by omega); (try have hs1w2 : w.heap.size + 1 < w2.heap.size := by omega); (try have hs2w2 : w.heap.size + 1 + 1 < w2.heap.size := by omega); (try have hs3w2 : w.heap.size + 1 + 1 + 1 < w2.heap.size := by omega); (try have hs_w1_w2 : w1.heap.size < w2.heap.size := by omega); (try have hs_w1p_w2 : w1.heap.size + 1 < w2.heap.size := by omega); (try have hs_w2_w2 : w2.heap.size < w2.heap.size := by omega); (try have hs_w2p_w2 : w2.heap.size + 1 < w2.heap.size := by omega); (try have hs_w3_w2 : w3.heap.size < w2.heap.size := by omega); (try have hs_w3p_w2 : w3.heap.size + 1 < w2.heap.size := by omega); (try have hs_w4_w2 : w4.heap.size < w2.heap.size := by omega); (try have hs_w4p_w2 : w4.heap.size + 1 < w2.heap.size := by omega); (try have hs_w5_w2 : w5.heap.size < w2.heap.size := by omega); (try have hs_w5p_w2 : w5.heap.size + 1 < w2.heap.size := by omega); (try have hs_w6_w2 : w6.heap.size < w2.heap.size := by omega); (try have hs_w6p_w2 : w6.heap.size + 1 < w2.heap.size := by omega))
    | (go_at_call 18; refine (rsvalid_any _ _ _ _ _ _ _ _ _).mono ?_; rintro e w5 ⟨rfl, hbw5⟩; obtain ⟨hcw5, hfw5⟩ := bcell hbw5; have hzw5 := hbw5.size; (try simp at hzw5); (try have hs0w5 : w.heap.size < w5.heap.size := by omega); (try have hs1w5 : w.heap.size + 1 < w5.heap.size := by omega); (try have hs2w5 : w.heap.size + 1 + 1 < w5.heap.size := by omega); (try have hs3w5 : w.heap.size + 1 + 1 + 1 < w5.heap.size := by omega); (try have hs_w1_w5 : w1.heap.size < w5.heap.size := by omega); (try have hs_w1p_w5 : w1.heap.size + 1 < w5.heap.size := by omega); (try have hs_w2_w5 : w2.heap.size < w5.heap.size := by omega); (try have hs_w2p_w5 : w2.heap.size + 1 < w5.heap.size := by omega); (try have hs_w3_w5 : w3.heap.size < w5.heap.size := by omega); (try have hs_w3p_w5 : w3.heap.size + 1 < w5.heap.size := by omega); (try have hs_w4_w5 : w4.heap.size < w5.heap.size := by omega); (try have hs_w4p_w5 : w4.heap.size + 1 < w5.heap.size := by omega); (try have hs_w5_w5 : w5.heap.size < w5.heap.size := by omega); (try have hs_w5p_w5 : w5.heap.size + 1 < w5.heap.size := by omega); (try have hs_w6_w5 : w6.heap.size < w5.heap.size := by omega); (try have hs_w6p_w5 : w6.heap.size + 1 < w5.heap.size := by omega))
    | (go_at_call 19; refine (rtime_any _ _).mono ?_; rintro e w1 ⟨rfl, rfl⟩))
  refine wp_world ?_
  intro w6 hbw6
  obtain ⟨hcw6, hfw6⟩ := bcell hbw6
  have hzw6 := hbw6.size
  (try simp at hzw6)
  (try have hs0w6 : w.heap.size < w6.heap.size := by omega); (try have hs1w6 : w.heap.size + 1 < w6.heap.size := by omega); (try have hs2w6 : w.heap.size + 1 + 1 < w6.heap.size := by omega); (try have hs3w6 : w.heap.size + 1 + 1 + 1 < w6.heap.size := by omega); (try have hs_w1_w6 : w1.heap.size < w6.heap.size := by omega); (try have hs_w1p_w6 : w1.heap.size + 1 < w6.heap.size := by omega); (try have hs_w2_w6 : w2.heap.size < w6.heap.size := by omega); (try have hs_w2p_w6 : w2.heap.size + 1 < w6.heap.size := by omega); (try have hs_w3_w6 : w3.heap.size < w6.heap.size := by omega); (try have hs_w3p_w6 : w3.heap.size + 1 < w6.heap.size := by omega); (try have hs_w4_w6 : w4.heap.size < w6.heap.size := by omega); (try have hs_w4p_w6 : w4.heap.size + 1 < w6.heap.size := by omega); (try have hs_w5_w6 : w5.heap.size < w6.heap.size := by omega); (try have hs_w5p_w6 : w5.heap.size + 1 < w6.heap.size := by omega); (try have hs_w6_w6 : w6.heap.size < w6.heap.size := by omega); (try have hs_w6p_w6 : w6.heap.size + 1 < w6.heap.size := by omega)
  have kT := cell_regrown (w := w6) (a := ⟨w.heap.size, 0, none⟩) (v := .int .i64 T) ((hcw6 (w.heap.size) (0) (by first | omega | (simp <;> omega))).trans (by go_simp))
  have kM := cell_regrown (w := w6) (a := ⟨w.heap.size, 1, none⟩) (v := .int .i64 M) ((hcw6 (w.heap.size) (1) (by first | omega | (simp <;> omega))).trans (by go_simp))
  have kS0 := cell_regrown (w := w6) (a := ⟨w.heap.size + 1, 0, none⟩) (v := .int .i64 m) ((hcw6 (w.heap.size + 1) (0) (by first | omega | (simp <;> omega))).trans (by go_simp))
  have kS1 := cell_regrown (w := w6) (a := ⟨w.heap.size + 1, 1, none⟩) (v := .int .i64 th) ((hcw6 (w.heap.size + 1) (1) (by first | omega | (simp <;> omega))).trans (by go_simp))
  have kS2 := cell_regrown (w := w6) (a := ⟨w.heap.size + 1, 2, none⟩) (v := .int .i64 la) ((hcw6 (w.heap.size + 1) (2) (by first | omega | (simp <;> omega))).trans (by go_simp))
  have kS3 := cell_regrown (w := w6) (a := ⟨w.heap.size + 1, 3, none⟩) (v := .int .i64 pe) ((hcw6 (w.heap.size + 1) (3) (by first | omega | (simp <;> omega))).trans (by go_simp))
  have kS4 := cell_regrown (w := w6) (a := ⟨w.heap.size + 1, 4, none⟩) (v := .int .i64 no) ((hcw6 (w.heap.size + 1) (4) (by first | omega | (simp <;> omega))).trans (by go_simp))
  have kS5 := cell_regrown (w := w6) (a := ⟨w.heap.size + 1, 5, none⟩) (v := .int .i64 te) ((hcw6 (w.heap.size + 1) (5) (by first | omega | (simp <;> omega))).trans (by go_simp))
  have kY0 := cell_regrown (w := w6) (a := ⟨w5.heap.size, 0, none⟩) (v := .int .i64 m) ((hcw6 (w5.heap.size) (0) (by first | omega | (simp <;> omega))).trans (by go_simp))
  have kY1 := cell_regrown (w := w6) (a := ⟨w5.heap.size, 1, none⟩) (v := .int .i64 th) ((hcw6 (w5.heap.size) (1) (by first | omega | (simp <;> omega))).trans (by go_simp))
  have kY2 := cell_regrown (w := w6) (a := ⟨w5.heap.size, 2, none⟩) (v := .int .i64 la) ((hcw6 (w5.heap.size) (2) (by first | omega | (simp <;> omega))).trans (by go_simp))
  have kY3 := cell_regrown (w := w6) (a := ⟨w5.heap.size, 3, none⟩) (v := .int .i64 pe) ((hcw6 (w5.heap.size) (3) (by first | omega | (simp <;> omega))).trans (by go_simp))
  have kY4 := cell_regrown (w := w6) (a := ⟨w5.heap.size, 4, none⟩) (v := .int .i64 no) ((hcw6 (w5.heap.size) (4) (by first | omega | (simp <;> omega))).trans (by go_simp))
  have kY5 := cell_regrown (w := w6) (a := ⟨w5.heap.size, 5, none⟩) (v := .int .i64 te) ((hcw6 (w5.heap.size) (5) (by first | omega | (simp <;> omega))).trans (by go_simp))
  refine wp_region_quiet_below (by kernel_rfl) (by kernel_rfl) ?_
  repeat (any_goals (first | go_big_quiet_step ((first | exact Calls.regrown_of (pat_is HP.out _ HV.out))) | quiet_step ((first | exact Calls.regrown_of (pat_is HP.out _ HV.out)))))
  refine wpQuiet_nil ?_
  intro _ hw'
  obtain ⟨⟨dq, osq⟩, hw''⟩ := hw'
  subst hw''
  have hbw7 := below_regrown w6 dq osq
  generalize grow (redrawn w6 dq) osq = w7 at *
  obtain ⟨hcw7, hfw7⟩ := bcell hbw7
  have hzw7 := hbw7.size
  (try have hs0w7 : w.heap.size < w7.heap.size := by omega); (try have hs1w7 : w.heap.size + 1 < w7.heap.size := by omega); (try have hs2w7 : w.heap.size + 1 + 1 < w7.heap.size := by omega); (try have hs3w7 : w.heap.size + 1 + 1 + 1 < w7.heap.size := by omega); (try have hs_w1_w7 : w1.heap.size < w7.heap.size := by omega); (try have hs_w1p_w7 : w1.heap.size + 1 < w7.heap.size := by omega); (try have hs_w2_w7 : w2.heap.size < w7.heap.size := by omega); (try have hs_w2p_w7 : w2.heap.size + 1 < w7.heap.size := by omega); (try have hs_w3_w7 : w3.heap.size < w7.heap.size := by omega); (try have hs_w3p_w7 : w3.heap.size + 1 < w7.heap.size := by omega); (try have hs_w4_w7 : w4.heap.size < w7.heap.size := by omega); (try have hs_w4p_w7 : w4.heap.size + 1 < w7.heap.size := by omega); (try have hs_w5_w7 : w5.heap.size < w7.heap.size := by omega); (try have hs_w5p_w7 : w5.heap.size + 1 < w7.heap.size := by omega); (try have hs_w6_w7 : w6.heap.size < w7.heap.size := by omega); (try have hs_w6p_w7 : w6.heap.size + 1 < w7.heap.size := by omega)
  clear kT kM kS0 kS1 kS2 kS3 kS4 kS5 kY0 kY1 kY2 kY3 kY4 kY5
  go_wp2
  go_ret
  refine ⟨rfl, ?_⟩
  repeat' (first | (with_reducible refine Below.setCell ?_ ?_ _) | (with_reducible refine Below.alloc ?_ ?_ _) | (with_reducible refine Below.drew ?_) | (with_reducible exact Below.refl _ _) | (with_reducible assumption) | (with_reducible refine Below.trans ?_ (Below.mono (by assumption) ?_)) | omega | (simp <;> omega))

set_option maxHeartbeats 1000000 in
theorem stalls_keep (T M m th la pe no te t : Int) (w : World) (hv : svld T M m th la pe no te = true) (ht : isTime t = true) (hlt : m ≠ 0 → la ≤ t) (hm : m ≠ 0) {p : Int} (hp : pat T M m th pe no = p) (hl : ¬ p < t - la) : Calls Try.prog 8 #[wv T M, sv m th la pe no te, .int .i64 t] w fun e w' => e = .returned (.bool true) ∧ Below w.heap.size w w' := by
  have hs : (⟨m, th, la, pe, no, te⟩ : SyS) = if m ≠ 0 ∧ pat T M m th pe no < t - la then ⟨0, 0, 0, 0, 0, 0⟩ else ⟨m, th, la, pe, no, te⟩ := by rw [if_neg (fun h => hl (hp ▸ h.2))]
  have HS := Lib.hid hs
  have HV := Lib.hid hv
  have HT := Lib.hid ht
  have HL := Lib.hid hlt
  have HP := Lib.hid hp
  have hlt2 := hlt hm
  have e1 : (m != 0) = true := by rw [bne_iff_ne]; exact hm
  obtain ⟨_, hc⟩ := svld_cases hv
  have hb : 0 ≤ la ∧ la ≤ 1099511627776 := by omega
  obtain ⟨l0, l1⟩ := hb
  obtain ⟨t0, t1⟩ := time_bd ht
  have e2 : decide (p < t - la) = false := decide_eq_false hl
  clear hs hlt hp hm hc
  go_enter Try.func8, Try.ntmps8
  go_wp2_with (first
    | (go_at_call 9; refine (awake_any _).mono ?_; rintro e w1 ⟨rfl, hbw1⟩; obtain ⟨hcw1, hfw1⟩ := bcell hbw1; have hzw1 := hbw1.size; (try simp at hzw1); (try have hs0w1 : w.heap.size < w1.heap.size := by omega); (try have hs1w1 : w.heap.size + 1 < w1.heap.size := by omega); (try have hs2w1 : w.heap.size + 1 + 1 < w1.heap.size := by omega); (try have hs3w1 : w.heap.size + 1 + 1 + 1 < w1.heap.size := by omega); (try have hs_w1_w1 : w1.heap.size < w1.heap.size := by omega); (try have hs_w1p_w1 : w1.heap.size + 1 < w1.heap.size := by omega); (try have hs_w2_w1 : w2.heap.size < w1.heap.size := by omega); (try have hs_w2p_w1 : w2.heap.size + 1 < w1.heap.size := by omega); (try have hs_w3_w1 : w3.heap.size < w1.heap.size := by omega); (try have hs_w3p_w1 : w3.heap.size + 1 < w1.heap.size := by omega); (try have hs_w4_w1 : w4.heap.size < w1.heap.size := by omega); (try have hs_w4p_w1 : w4.heap.size + 1 < w1.heap.size := by omega); (try have hs_w5_w1 : w5.heap.size < w1.heap.size := by omega); (try have hs_w5p_w1 : w5.heap.size + 1 < w1.heap.size := by omega); (try have hs_w6_w1 : w6.heap.size < w1.heap.size := by omega); (try have hs_w6p_w1 : w6.heap.size + 1 < w1.heap.size := by omega))
    | (go_at_call 26; refine (stall_ok _ _ _ _ _ _ _ _ _ _ HV.out HT.out HL.out HS.out).mono ?_; rintro e w2 ⟨rfl, hbw2⟩; obtain ⟨hcw2, hfw2⟩ := bcell hbw2; have hzw2 := hbw2.size; (try simp at hzw2); (try have hs0w2 : w.heap.size < w2.heap.size := by omega); (try have hs1w2 : w.heap.size + 1 < w2.heap.size := by omega); (try have hs2w2 : w.heap.size + 1 + 1 < w2.heap.size := by omega); (try have hs3w2 : w.heap.size + 1 + 1 + 1 < w2.heap.size := by omega); (try have hs_w1_w2 : w1.heap.size < w2.heap.size := by omega); (try have hs_w1p_w2 : w1.heap.size + 1 < w2.heap.size := by omega); (try have hs_w2_w2 : w2.heap.size < w2.heap.size := by omega); (try have hs_w2p_w2 : w2.heap.size + 1 < w2.heap.size := by omega); (try have hs_w3_w2 : w3.heap.size < w2.heap.size := by omega); (try have hs_w3p_w2 : w3.heap.size + 1 < w2.heap.size := by omega); (try have hs_w4_w2 : w4.heap.size < w2.heap.size := by omega); (try have hs_w4p_w2 : w4.heap.size + 1 < w2.heap.size := by omega); (try have hs_w5_w2 : w5.heap.size < w2.heap.size := by omega); (try have hs_w5p_w2 : w5.heap.size + 1 < w2.heap.size := by omega); (try have hs_w6_w2 : w6.heap.size < w2.heap.size := by omega); (try have hs_w6p_w2 : w6.heap.size + 1 < w2.heap.size := by omega))
    | (go_at_call 18; refine (rsvalid_any _ _ _ _ _ _ _ _ _).mono ?_; rintro e w5 ⟨rfl, hbw5⟩; obtain ⟨hcw5, hfw5⟩ := bcell hbw5; have hzw5 := hbw5.size; (try simp at hzw5); (try have hs0w5 : w.heap.size < w5.heap.size := by omega); (try have hs1w5 : w.heap.size + 1 < w5.heap.size := by omega); (try have hs2w5 : w.heap.size + 1 + 1 < w5.heap.size := by omega); (try have hs3w5 : w.heap.size + 1 + 1 + 1 < w5.heap.size := by omega); (try have hs_w1_w5 : w1.heap.size < w5.heap.size := by omega); (try have hs_w1p_w5 : w1.heap.size + 1 < w5.heap.size := by omega); (try have hs_w2_w5 : w2.heap.size < w5.heap.size := by omega); (try have hs_w2p_w5 : w2.heap.size + 1 < w5.heap.size := by omega); (try have hs_w3_w5 : w3.heap.size < w5.heap.size := by omega); (try have hs_w3p_w5 : w3.heap.size + 1 < w5.heap.size := by omega); (try have hs_w4_w5 : w4.heap.size < w5.heap.size := by omega); (try have hs_w4p_w5 : w4.heap.size + 1 < w5.heap.size := by omega); (try have hs_w5_w5 : w5.heap.size < w5.heap.size := by omega); (try have hs_w5p_w5 : w5.heap.size + 1 < w5.heap.size := by omega); (try have hs_w6_w5 : w6.heap.size < w5.heap.size := by omega); (try have hs_w6p_w5 : w6.heap.size + 1 < w5.heap.size := by omega))
    | (go_at_call 19; refine (rtime_any _ _).mono ?_; rintro e w1 ⟨rfl, rfl⟩))
  refine wp_world ?_
  intro w6 hbw6
  obtain ⟨hcw6, hfw6⟩ := bcell hbw6
  have hzw6 := hbw6.size
  (try simp at hzw6)
  (try have hs0w6 : w.heap.size < w6.heap.size := by omega); (try have hs1w6 : w.heap.size + 1 < w6.heap.size := by omega); (try have hs2w6 : w.heap.size + 1 + 1 < w6.heap.size := by omega); (try have hs3w6 : w.heap.size + 1 + 1 + 1 < w6.heap.size := by omega); (try have hs_w1_w6 : w1.heap.size < w6.heap.size := by omega); (try have hs_w1p_w6 : w1.heap.size + 1 < w6.heap.size := by omega); (try have hs_w2_w6 : w2.heap.size < w6.heap.size := by omega); (try have hs_w2p_w6 : w2.heap.size + 1 < w6.heap.size := by omega); (try have hs_w3_w6 : w3.heap.size < w6.heap.size := by omega); (try have hs_w3p_w6 : w3.heap.size + 1 < w6.heap.size := by omega); (try have hs_w4_w6 : w4.heap.size < w6.heap.size := by omega); (try have hs_w4p_w6 : w4.heap.size + 1 < w6.heap.size := by omega); (try have hs_w5_w6 : w5.heap.size < w6.heap.size := by omega); (try have hs_w5p_w6 : w5.heap.size + 1 < w6.heap.size := by omega); (try have hs_w6_w6 : w6.heap.size < w6.heap.size := by omega); (try have hs_w6p_w6 : w6.heap.size + 1 < w6.heap.size := by omega)
  have kT := cell_regrown (w := w6) (a := ⟨w.heap.size, 0, none⟩) (v := .int .i64 T) ((hcw6 (w.heap.size) (0) (by first | omega | (simp <;> omega))).trans (by go_simp))
  have kM := cell_regrown (w := w6) (a := ⟨w.heap.size, 1, none⟩) (v := .int .i64 M) ((hcw6 (w.heap.size) (1) (by first | omega | (simp <;> omega))).trans (by go_simp))
  have kS0 := cell_regrown (w := w6) (a := ⟨w.heap.size + 1, 0, none⟩) (v := .int .i64 m) ((hcw6 (w.heap.size + 1) (0) (by first | omega | (simp <;> omega))).trans (by go_simp))
  have kS1 := cell_regrown (w := w6) (a := ⟨w.heap.size + 1, 1, none⟩) (v := .int .i64 th) ((hcw6 (w.heap.size + 1) (1) (by first | omega | (simp <;> omega))).trans (by go_simp))
  have kS2 := cell_regrown (w := w6) (a := ⟨w.heap.size + 1, 2, none⟩) (v := .int .i64 la) ((hcw6 (w.heap.size + 1) (2) (by first | omega | (simp <;> omega))).trans (by go_simp))
  have kS3 := cell_regrown (w := w6) (a := ⟨w.heap.size + 1, 3, none⟩) (v := .int .i64 pe) ((hcw6 (w.heap.size + 1) (3) (by first | omega | (simp <;> omega))).trans (by go_simp))
  have kS4 := cell_regrown (w := w6) (a := ⟨w.heap.size + 1, 4, none⟩) (v := .int .i64 no) ((hcw6 (w.heap.size + 1) (4) (by first | omega | (simp <;> omega))).trans (by go_simp))
  have kS5 := cell_regrown (w := w6) (a := ⟨w.heap.size + 1, 5, none⟩) (v := .int .i64 te) ((hcw6 (w.heap.size + 1) (5) (by first | omega | (simp <;> omega))).trans (by go_simp))
  have kY0 := cell_regrown (w := w6) (a := ⟨w5.heap.size, 0, none⟩) (v := .int .i64 m) ((hcw6 (w5.heap.size) (0) (by first | omega | (simp <;> omega))).trans (by go_simp))
  have kY1 := cell_regrown (w := w6) (a := ⟨w5.heap.size, 1, none⟩) (v := .int .i64 th) ((hcw6 (w5.heap.size) (1) (by first | omega | (simp <;> omega))).trans (by go_simp))
  have kY2 := cell_regrown (w := w6) (a := ⟨w5.heap.size, 2, none⟩) (v := .int .i64 la) ((hcw6 (w5.heap.size) (2) (by first | omega | (simp <;> omega))).trans (by go_simp))
  have kY3 := cell_regrown (w := w6) (a := ⟨w5.heap.size, 3, none⟩) (v := .int .i64 pe) ((hcw6 (w5.heap.size) (3) (by first | omega | (simp <;> omega))).trans (by go_simp))
  have kY4 := cell_regrown (w := w6) (a := ⟨w5.heap.size, 4, none⟩) (v := .int .i64 no) ((hcw6 (w5.heap.size) (4) (by first | omega | (simp <;> omega))).trans (by go_simp))
  have kY5 := cell_regrown (w := w6) (a := ⟨w5.heap.size, 5, none⟩) (v := .int .i64 te) ((hcw6 (w5.heap.size) (5) (by first | omega | (simp <;> omega))).trans (by go_simp))
  refine wp_region_quiet_below (by kernel_rfl) (by kernel_rfl) ?_
  repeat (any_goals (first | go_big_quiet_step ((first | exact Calls.regrown_of (pat_is HP.out _ HV.out))) | quiet_step ((first | exact Calls.regrown_of (pat_is HP.out _ HV.out)))))
  refine wpQuiet_nil ?_
  intro _ hw'
  obtain ⟨⟨dq, osq⟩, hw''⟩ := hw'
  subst hw''
  have hbw7 := below_regrown w6 dq osq
  generalize grow (redrawn w6 dq) osq = w7 at *
  obtain ⟨hcw7, hfw7⟩ := bcell hbw7
  have hzw7 := hbw7.size
  (try have hs0w7 : w.heap.size < w7.heap.size := by omega); (try have hs1w7 : w.heap.size + 1 < w7.heap.size := by omega); (try have hs2w7 : w.heap.size + 1 + 1 < w7.heap.size := by omega); (try have hs3w7 : w.heap.size + 1 + 1 + 1 < w7.heap.size := by omega); (try have hs_w1_w7 : w1.heap.size < w7.heap.size := by omega); (try have hs_w1p_w7 : w1.heap.size + 1 < w7.heap.size := by omega); (try have hs_w2_w7 : w2.heap.size < w7.heap.size := by omega); (try have hs_w2p_w7 : w2.heap.size + 1 < w7.heap.size := by omega); (try have hs_w3_w7 : w3.heap.size < w7.heap.size := by omega); (try have hs_w3p_w7 : w3.heap.size + 1 < w7.heap.size := by omega); (try have hs_w4_w7 : w4.heap.size < w7.heap.size := by omega); (try have hs_w4p_w7 : w4.heap.size + 1 < w7.heap.size := by omega); (try have hs_w5_w7 : w5.heap.size < w7.heap.size := by omega); (try have hs_w5p_w7 : w5.heap.size + 1 < w7.heap.size := by omega); (try have hs_w6_w7 : w6.heap.size < w7.heap.size := by omega); (try have hs_w6p_w7 : w6.heap.size + 1 < w7.heap.size := by omega)
  clear kT kM kS0 kS1 kS2 kS3 kS4 kS5 kY0 kY1 kY2 kY3 kY4 kY5
  go_wp2
  go_ret
  refine ⟨rfl, ?_⟩
  repeat' (first | (with_reducible refine Below.setCell ?_ ?_ _) | (with_reducible refine Below.alloc ?_ ?_ _) | (with_reducible refine Below.drew ?_) | (with_reducible exact Below.refl _ _) | (with_reducible assumption) | (with_reducible refine Below.trans ?_ (Below.mono (by assumption) ?_)) | omega | (simp <;> omega))

theorem law_stalls (T M m th la pe no te t : Int) (w : World) : Calls Try.prog 8 #[wv T M, sv m th la pe no te, .int .i64 t] w fun e w' => e = .returned (.bool true) ∧ Below w.heap.size w w' := by
  by_cases he : stallErr T M m th la pe no te t = 0
  · unfold stallErr at he
    by_cases hv : svld T M m th la pe no te = true
    · rw [if_neg (by rw [hv]; decide)] at he
      by_cases ht : isTime t = true
      · rw [if_neg (by rw [ht]; decide)] at he
        by_cases hl : m ≠ 0 ∧ t < la
        · rw [if_pos hl] at he; omega
        · have hlt : m ≠ 0 → la ≤ t := fun hm => by
            have : ¬ t < la := fun h => hl ⟨hm, h⟩
            omega
          by_cases hm : m = 0
          · obtain ⟨_, hc⟩ := svld_cases hv
            have hz : m = 0 ∧ th = 0 ∧ la = 0 ∧ pe = 0 ∧ no = 0 ∧ te = 0 := by omega
            obtain ⟨rfl, rfl, rfl, rfl, rfl, rfl⟩ := hz
            exact stalls_lost T M t w hv ht
          · by_cases hp : pat T M m th pe no < t - la
            · exact stalls_gone T M m th la pe no te t w hv ht hlt hm rfl hp
            · exact stalls_keep T M m th la pe no te t w hv ht hlt hm rfl hp
      · rw [if_pos (by simpa using ht)] at he; omega
    · rw [if_pos (by simpa using hv)] at he; omega
  · exact stalls_err T M m th la pe no te t _ w rfl he

end Go.Proofs.Ytcaadikffaflnaa
