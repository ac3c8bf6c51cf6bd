/- The contracts of sync.Step, sync.Gap, and New with the law SyncSteps' needs. -/
import Derived.Test.YtcaadikffaflnaaV6
namespace Go.Proofs.Ytcaadikffaflnaa
open Go.RowKit Go.Sort

/-- The error of Step. -/
def stepErr (T M m th la pe no te t : Int) : Int := if svld T M m th la pe no te = false then 1 else if isTime t = false then 2 else if m ≠ 0 ∧ t ≤ la then 16 else 0

theorem step_err (T M m th la pe no te t : Int) (er : Int) (w : World) (he : stepErr T M m th la pe no te t = er) (h0 : er ≠ 0) : Calls Try.prog 16 #[wv T M, sv m th la pe no te, .int .i64 t] w fun e w' => e = .returned (.tuple #[sv 0 0 0 0 0 0, .int .i64 er]) ∧ Below w.heap.size w w' := by
  unfold stepErr at he
  by_cases hv : svld T M m th la pe no te = true
  · rw [if_neg (by rw [hv]; decide)] at he
    by_cases ht : isTime t = true
    · rw [if_neg (by rw [ht]; decide)] at he
      by_cases hl : m ≠ 0 ∧ t ≤ la
      · rw [if_pos hl] at he
        obtain ⟨hl1, hl2⟩ := hl
        have e1 : (m != 0) = true := by rw [bne_iff_ne]; exact hl1
        subst he
        clear h0
        go_enter Try.func16, Try.ntmps16
        go_wp2_with (first
          | (go_at_call 17; refine (svalid_any _ _ _ _ _ _ _ _ _).mono ?_; rintro e w1 ⟨rfl, hbw1⟩; obtain ⟨hcw1, hfw1⟩ := bcell hbw1; have hzw1 := hbw1.size; (try simp at hzw1); (try have hs0w1 : w.heap.size < w1.heap.size := by omega); (try have hs1w1 : w.heap.size + 1 < w1.heap.size := by omega); (try have hs2w1 : w.heap.size + 1 + 1 < w1.heap.size := by omega); (try have hs3w1 : w.heap.size + 1 + 1 + 1 < w1.heap.size := by omega); (try have hs_w1_w1 : w1.heap.size < w1.heap.size := by omega); (try have hs_w1p_w1 : w1.heap.size + 1 < w1.heap.size := by omega); (try have hs_w2_w1 : w2.heap.size < w1.heap.size := by omega); (try have hs_w2p_w1 : w2.heap.size + 1 < w1.heap.size := by omega); (try have hs_w3_w1 : w3.heap.size < w1.heap.size := by omega); (try have hs_w3p_w1 : w3.heap.size + 1 < w1.heap.size := by omega); (try have hs_w4_w1 : w4.heap.size < w1.heap.size := by omega); (try have hs_w4p_w1 : w4.heap.size + 1 < w1.heap.size := by omega); (try have hs_w5_w1 : w5.heap.size < w1.heap.size := by omega); (try have hs_w5p_w1 : w5.heap.size + 1 < w1.heap.size := by omega); (try have hs_w6_w1 : w6.heap.size < w1.heap.size := by omega); (try have hs_w6p_w1 : w6.heap.size + 1 < w1.heap.size := by omega))
          | (go_at_call 31; refine (time_any _ _).mono ?_; rintro e w1 ⟨rfl, rfl⟩))
        refine bodyPost_ret (v := .tuple #[sv 0 0 0 0 0 0, .int .i64 16]) (by simp [results, Try.results16, go_sem, *]) rfl ?_
        refine ⟨rfl, ?_⟩
        repeat' (first | (with_reducible refine Below.setCell ?_ ?_ _) | (with_reducible refine Below.alloc ?_ ?_ _) | (with_reducible refine Below.drew ?_) | (with_reducible exact Below.refl _ _) | (with_reducible assumption) | (with_reducible refine Below.trans ?_ (Below.mono (by assumption) ?_)) | omega | (simp <;> omega))
      · rw [if_neg hl] at he
        exact absurd he.symm h0
    · have ht' : isTime t = false := by simpa using ht
      rw [if_pos ht'] at he
      subst he
      clear ht h0
      go_enter Try.func16, Try.ntmps16
      go_wp2_with (first
        | (go_at_call 17; refine (svalid_any _ _ _ _ _ _ _ _ _).mono ?_; rintro e w1 ⟨rfl, hbw1⟩; obtain ⟨hcw1, hfw1⟩ := bcell hbw1; have hzw1 := hbw1.size; (try simp at hzw1); (try have hs0w1 : w.heap.size < w1.heap.size := by omega); (try have hs1w1 : w.heap.size + 1 < w1.heap.size := by omega); (try have hs2w1 : w.heap.size + 1 + 1 < w1.heap.size := by omega); (try have hs3w1 : w.heap.size + 1 + 1 + 1 < w1.heap.size := by omega); (try have hs_w1_w1 : w1.heap.size < w1.heap.size := by omega); (try have hs_w1p_w1 : w1.heap.size + 1 < w1.heap.size := by omega); (try have hs_w2_w1 : w2.heap.size < w1.heap.size := by omega); (try have hs_w2p_w1 : w2.heap.size + 1 < w1.heap.size := by omega); (try have hs_w3_w1 : w3.heap.size < w1.heap.size := by omega); (try have hs_w3p_w1 : w3.heap.size + 1 < w1.heap.size := by omega); (try have hs_w4_w1 : w4.heap.size < w1.heap.size := by omega); (try have hs_w4p_w1 : w4.heap.size + 1 < w1.heap.size := by omega); (try have hs_w5_w1 : w5.heap.size < w1.heap.size := by omega); (try have hs_w5p_w1 : w5.heap.size + 1 < w1.heap.size := by omega); (try have hs_w6_w1 : w6.heap.size < w1.heap.size := by omega); (try have hs_w6p_w1 : w6.heap.size + 1 < w1.heap.size := by omega))
        | (go_at_call 31; refine (time_any _ _).mono ?_; rintro e w1 ⟨rfl, rfl⟩))
      refine bodyPost_ret (v := .tuple #[sv 0 0 0 0 0 0, .int .i64 2]) (by simp [results, Try.results16, go_sem, *]) rfl ?_
      refine ⟨rfl, ?_⟩
      repeat' (first | (with_reducible refine Below.setCell ?_ ?_ _) | (with_reducible refine Below.alloc ?_ ?_ _) | (with_reducible refine Below.drew ?_) | (with_reducible exact Below.refl _ _) | (with_reducible assumption) | (with_reducible refine Below.trans ?_ (Below.mono (by assumption) ?_)) | omega | (simp <;> omega))
  · have hv' : svld T M m th la pe no te = false := by simpa using hv
    rw [if_pos hv'] at he
    subst he
    clear hv h0
    go_enter Try.func16, Try.ntmps16
    go_wp2_with (go_at_call 17; refine (svalid_any _ _ _ _ _ _ _ _ _).mono ?_; rintro e w1 ⟨rfl, hbw1⟩; obtain ⟨hcw1, hfw1⟩ := bcell hbw1; have hzw1 := hbw1.size; (try simp at hzw1); (try have hs0w1 : w.heap.size < w1.heap.size := by omega); (try have hs1w1 : w.heap.size + 1 < w1.heap.size := by omega); (try have hs2w1 : w.heap.size + 1 + 1 < w1.heap.size := by omega); (try have hs3w1 : w.heap.size + 1 + 1 + 1 < w1.heap.size := by omega); (try have hs_w1_w1 : w1.heap.size < w1.heap.size := by omega); (try have hs_w1p_w1 : w1.heap.size + 1 < w1.heap.size := by omega); (try have hs_w2_w1 : w2.heap.size < w1.heap.size := by omega); (try have hs_w2p_w1 : w2.heap.size + 1 < w1.heap.size := by omega); (try have hs_w3_w1 : w3.heap.size < w1.heap.size := by omega); (try have hs_w3p_w1 : w3.heap.size + 1 < w1.heap.size := by omega); (try have hs_w4_w1 : w4.heap.size < w1.heap.size := by omega); (try have hs_w4p_w1 : w4.heap.size + 1 < w1.heap.size := by omega); (try have hs_w5_w1 : w5.heap.size < w1.heap.size := by omega); (try have hs_w5p_w1 : w5.heap.size + 1 < w1.heap.size := by omega); (try have hs_w6_w1 : w6.heap.size < w1.heap.size := by omega); (try have hs_w6p_w1 : w6.heap.size + 1 < w1.heap.size := by omega))
    refine bodyPost_ret (v := .tuple #[sv 0 0 0 0 0 0, .int .i64 1]) (by simp [results, Try.results16, go_sem, *]) rfl ?_
    refine ⟨rfl, ?_⟩
    repeat' (first | (with_reducible refine Below.setCell ?_ ?_ _) | (with_reducible refine Below.alloc ?_ ?_ _) | (with_reducible refine Below.drew ?_) | (with_reducible exact Below.refl _ _) | (with_reducible assumption) | (with_reducible refine Below.trans ?_ (Below.mono (by assumption) ?_)) | omega | (simp <;> omega))

theorem stepS_in {T M m th la pe no te t : Int} {m' th' la' pe' no' te' : Int} (h : stepS T M m th la no te t = ⟨m', th', la', pe', no', te'⟩) (w : World) (hv : svld T M m th la pe no te = true) (ht : isTime t = true) (hlt : m ≠ 0 → la < t) :
    Calls Try.prog 32 #[wv T M, sv m th la pe no te, .int .i64 t] w fun e w' => e = .returned (sv m' th' la' pe' no' te') ∧ Below w.heap.size w w' :=
  (step_in T M m th la pe no te t w hv ht hlt).mono fun _ _ ⟨h1, h2⟩ => ⟨by rw [h1, h]; rfl, h2⟩
theorem rstepS_in {T M m th la pe no te t : Int} {m' th' la' pe' no' te' : Int} (h : stepS T M m th la no te t = ⟨m', th', la', pe', no', te'⟩) (w : World) (hv : svld T M m th la pe no te = true) (ht : isTime t = true) (hlt : m ≠ 0 → la < t) :
    Calls Try.prog 20 #[wv T M, sv m th la pe no te, .int .i64 t] w fun e w' => e = .returned (sv m' th' la' pe' no' te') ∧ Below w.heap.size w w' :=
  (rstep_in T M m th la pe no te t w hv ht hlt).mono fun _ _ ⟨h1, h2⟩ => ⟨by rw [h1, h]; rfl, h2⟩

theorem stepP_ok {T M m th la pe no te t : Int} {m' th' la' pe' no' te' : Int} (h : stepS T M m th la no te t = ⟨m', th', la', pe', no', te'⟩) (w : World) (hv : svld T M m th la pe no te = true) (ht : isTime t = true) (hlt : m ≠ 0 → la < t) :
    Calls Try.prog 16 #[wv T M, sv m th la pe no te, .int .i64 t] w fun e w' => e = .returned (.tuple #[sv m' th' la' pe' no' te', .int .i64 0]) ∧ Below w.heap.size w w' := by
  have H := Lib.hid h
  have HV := Lib.hid hv
  have HT := Lib.hid ht
  have HL := Lib.hid hlt
  by_cases hm : m = 0
  · subst hm
    clear h hlt
    go_enter Try.func16, Try.ntmps16
    go_wp2_with (first
      | (go_at_call 17; refine (svalid_any _ _ _ _ _ _ _ _ _).mono ?_; rintro e w1 ⟨rfl, hbw1⟩; obtain ⟨hcw1, hfw1⟩ := bcell hbw1; have hzw1 := hbw1.size; (try simp at hzw1); (try have hs0w1 : w.heap.size < w1.heap.size := by omega); (try have hs1w1 : w.heap.size + 1 < w1.heap.size := by omega); (try have hs2w1 : w.heap.size + 1 + 1 < w1.heap.size := by omega); (try have hs3w1 : w.heap.size + 1 + 1 + 1 < w1.heap.size := by omega); (try have hs_w1_w1 : w1.heap.size < w1.heap.size := by omega); (try have hs_w1p_w1 : w1.heap.size + 1 < w1.heap.size := by omega); (try have hs_w2_w1 : w2.heap.size < w1.heap.size := by omega); (try have hs_w2p_w1 : w2.heap.size + 1 < w1.heap.size := by omega); (try have hs_w3_w1 : w3.heap.size < w1.heap.size := by omega); (try have hs_w3p_w1 : w3.heap.size + 1 < w1.heap.size := by omega); (try have hs_w4_w1 : w4.heap.size < w1.heap.size := by omega); (try have hs_w4p_w1 : w4.heap.size + 1 < w1.heap.size := by omega); (try have hs_w5_w1 : w5.heap.size < w1.heap.size := by omega); (try have hs_w5p_w1 : w5.heap.size + 1 < w1.heap.size := by omega); (try have hs_w6_w1 : w6.heap.size < w1.heap.size := by omega); (try have hs_w6p_w1 : w6.heap.size + 1 < w1.heap.size := by omega))
      | (go_at_call 31; refine (time_any _ _).mono ?_; rintro e w1 ⟨rfl, rfl⟩)
      | (go_at_call 32; refine (stepS_in H.out _ HV.out HT.out (fun h => absurd rfl h)).mono ?_; rintro e w2 ⟨rfl, hbw2⟩; obtain ⟨hcw2, hfw2⟩ := bcell hbw2; have hzw2 := hbw2.size; (try simp at hzw2); (try have hs0w2 : w.heap.size < w2.heap.size := by omega); (try have hs1w2 : w.heap.size + 1 < w2.heap.size := by omega); (try have hs2w2 : w.heap.size + 1 + 1 < w2.heap.size := by omega); (try have hs3w2 : w.heap.size + 1 + 1 + 1 < w2.heap.size := by omega); (try have hs_w1_w2 : w1.heap.size < w2.heap.size := by omega); (try have hs_w1p_w2 : w1.heap.size + 1 < w2.heap.size := by omega); (try have hs_w2_w2 : w2.heap.size < w2.heap.size := by omega); (try have hs_w2p_w2 : w2.heap.size + 1 < w2.heap.size := by omega); (try have hs_w3_w2 : w3.heap.size < w2.heap.size := by omega); (try have hs_w3p_w2 : w3.heap.size + 1 < w2.heap.size := by omega); (try have hs_w4_w2 : w4.heap.size < w2.heap.size := by omega); (try have hs_w4p_w2 : w4.heap.size + 1 < w2.heap.size := by omega); (try have hs_w5_w2 : w5.heap.size < w2.heap.size := by omega); (try have hs_w5p_w2 : w5.heap.size + 1 < w2.heap.size := by omega); (try have hs_w6_w2 : w6.heap.size < w2.heap.size := by omega); (try have hs_w6p_w2 : w6.heap.size + 1 < w2.heap.size := by omega)))
    refine bodyPost_ret (v := .tuple #[sv m' th' la' pe' no' te', .int .i64 0]) (by simp [results, Try.results16, go_sem, *]) rfl ?_
    refine ⟨rfl, ?_⟩
    repeat' (first | (with_reducible refine Below.setCell ?_ ?_ _) | (with_reducible refine Below.alloc ?_ ?_ _) | (with_reducible refine Below.drew ?_) | (with_reducible exact Below.refl _ _) | (with_reducible assumption) | (with_reducible refine Below.trans ?_ (Below.mono (by assumption) ?_)) | omega | (simp <;> omega))
  · have hlt2 := hlt hm
    have e1 : (m != 0) = true := by rw [bne_iff_ne]; exact hm
    clear h hlt hm
    go_enter Try.func16, Try.ntmps16
    go_wp2_with (first
      | (go_at_call 17; refine (svalid_any _ _ _ _ _ _ _ _ _).mono ?_; rintro e w1 ⟨rfl, hbw1⟩; obtain ⟨hcw1, hfw1⟩ := bcell hbw1; have hzw1 := hbw1.size; (try simp at hzw1); (try have hs0w1 : w.heap.size < w1.heap.size := by omega); (try have hs1w1 : w.heap.size + 1 < w1.heap.size := by omega); (try have hs2w1 : w.heap.size + 1 + 1 < w1.heap.size := by omega); (try have hs3w1 : w.heap.size + 1 + 1 + 1 < w1.heap.size := by omega); (try have hs_w1_w1 : w1.heap.size < w1.heap.size := by omega); (try have hs_w1p_w1 : w1.heap.size + 1 < w1.heap.size := by omega); (try have hs_w2_w1 : w2.heap.size < w1.heap.size := by omega); (try have hs_w2p_w1 : w2.heap.size + 1 < w1.heap.size := by omega); (try have hs_w3_w1 : w3.heap.size < w1.heap.size := by omega); (try have hs_w3p_w1 : w3.heap.size + 1 < w1.heap.size := by omega); (try have hs_w4_w1 : w4.heap.size < w1.heap.size := by omega); (try have hs_w4p_w1 : w4.heap.size + 1 < w1.heap.size := by omega); (try have hs_w5_w1 : w5.heap.size < w1.heap.size := by omega); (try have hs_w5p_w1 : w5.heap.size + 1 < w1.heap.size := by omega); (try have hs_w6_w1 : w6.heap.size < w1.heap.size := by omega); (try have hs_w6p_w1 : w6.heap.size + 1 < w1.heap.size := by omega))
      | (go_at_call 31; refine (time_any _ _).mono ?_; rintro e w1 ⟨rfl, rfl⟩)
      | (go_at_call 32; refine (stepS_in H.out _ HV.out HT.out (fun _ => hlt2)).mono ?_; rintro e w2 ⟨rfl, hbw2⟩; obtain ⟨hcw2, hfw2⟩ := bcell hbw2; have hzw2 := hbw2.size; (try simp at hzw2); (try have hs0w2 : w.heap.size < w2.heap.size := by omega); (try have hs1w2 : w.heap.size + 1 < w2.heap.size := by omega); (try have hs2w2 : w.heap.size + 1 + 1 < w2.heap.size := by omega); (try have hs3w2 : w.heap.size + 1 + 1 + 1 < w2.heap.size := by omega); (try have hs_w1_w2 : w1.heap.size < w2.heap.size := by omega); (try have hs_w1p_w2 : w1.heap.size + 1 < w2.heap.size := by omega); (try have hs_w2_w2 : w2.heap.size < w2.heap.size := by omega); (try have hs_w2p_w2 : w2.heap.size + 1 < w2.heap.size := by omega); (try have hs_w3_w2 : w3.heap.size < w2.heap.size := by omega); (try have hs_w3p_w2 : w3.heap.size + 1 < w2.heap.size := by omega); (try have hs_w4_w2 : w4.heap.size < w2.heap.size := by omega); (try have hs_w4p_w2 : w4.heap.size + 1 < w2.heap.size := by omega); (try have hs_w5_w2 : w5.heap.size < w2.heap.size := by omega); (try have hs_w5p_w2 : w5.heap.size + 1 < w2.heap.size := by omega); (try have hs_w6_w2 : w6.heap.size < w2.heap.size := by omega); (try have hs_w6p_w2 : w6.heap.size + 1 < w2.heap.size := by omega)))
    refine bodyPost_ret (v := .tuple #[sv m' th' la' pe' no' te', .int .i64 0]) (by simp [results, Try.results16, go_sem, *]) rfl ?_
    refine ⟨rfl, ?_⟩
    repeat' (first | (with_reducible refine Below.setCell ?_ ?_ _) | (with_reducible refine Below.alloc ?_ ?_ _) | (with_reducible refine Below.drew ?_) | (with_reducible exact Below.refl _ _) | (with_reducible assumption) | (with_reducible refine Below.trans ?_ (Below.mono (by assumption) ?_)) | omega | (simp <;> omega))

end Go.Proofs.Ytcaadikffaflnaa
