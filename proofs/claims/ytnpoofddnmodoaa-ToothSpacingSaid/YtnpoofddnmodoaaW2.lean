/- The contract of toothfilter.Step and of its reference. -/
import Derived.Test.YtnpoofddnmodoaaW1
namespace Go.Proofs.Ytnpoofddnmodoaa
open Go.RowKit Go.Sort

/-- The result of Step: the state's three fields, whether it is accepted, the error. -/
structure StepR where
  sn : Bool
  la : Int
  pe : Int
  ok : Bool
  er : Int
def StepR.val (r : StepR) : Value := .tuple #[fl r.sn r.la r.pe, .bool r.ok, .int .i64 r.er]

def stepR (sn : Bool) (la pe t : Int) : StepR :=
  if vld sn la pe = false then ⟨false, 0, 0, false, 1⟩
  else if isTime t = false then ⟨false, 0, 0, false, 2⟩
  else if sn = true then
    (if t < la then ⟨false, 0, 0, false, 16⟩
    else if t - la < blk sn la pe then ⟨sn, la, pe, false, 0⟩
    else ⟨true, t, t - la, true, 0⟩)
  else ⟨true, t, 0, true, 0⟩

theorem step_any (sn : Bool) (la pe t : Int) (w : World) : Calls Try.prog 11 #[fl sn la pe, .int .i64 t] w fun e w' => e = .returned (stepR sn la pe t).val ∧ Below w.heap.size w w' := by
  by_cases hv : vld sn la pe = true
  · have l0 : 0 ≤ la := by simp [vld] at hv; omega
    have l1 : la ≤ 1099511627776 := by simp [vld] at hv; omega
    by_cases ht : isTime t = true
    · have t0 : 0 ≤ t := by simp [isTime] at ht; omega
      have t1 : t ≤ 1099511627776 := by simp [isTime] at ht; omega
      cases sn
      · have hs : stepR false la pe t = ⟨true, t, 0, true, 0⟩ := by simp [stepR, hv, ht]
        rw [hs]; unfold StepR.val; clear hs
        go_enter Try.func11, Try.ntmps11
        go_wp2_with (first
          | (go_at_call 21; refine (valid_any _ _ _ _).mono ?_; rintro e w1 ⟨rfl, hbw1⟩; obtain ⟨hcw1, hfw1⟩ := bcell hbw1; have hzw1 := hbw1.size; (try simp at hzw1); (try have hs0w1 : w.heap.size < w1.heap.size := by omega); (try have hs1w1 : w.heap.size + 1 < w1.heap.size := by omega); (try have hs2w1 : w.heap.size + 1 + 1 < w1.heap.size := by omega); (try have hs3w1 : w.heap.size + 1 + 1 + 1 < w1.heap.size := by omega))
          | (go_at_call 26; refine (time_any _ _).mono ?_; rintro e w1 ⟨rfl, rfl⟩))
        have c0 : w1.cell? ⟨w.heap.size, 0, none⟩ = some (.bool false) := by rw [hcw1 _ _ (by simp; omega)]; go_simp
        have k0 := cell_regrown c0
        refine wp_region_quiet_below (by kernel_rfl) (by kernel_rfl) ?_
        repeat (any_goals (first | go_big_quiet_step (fail) | quiet_step (fail)))
        refine wpQuiet_nil ?_
        intro _ hw'
        obtain ⟨⟨dq, osq⟩, hw''⟩ := hw'
        subst hw''
        have hbw2 := below_regrown w1 dq osq
        generalize grow (redrawn w1 dq) osq = w2 at *
        obtain ⟨hcw2, hfw2⟩ := bcell hbw2
        have hzw2 := hbw2.size
        (try have hs0w2 : w.heap.size < w2.heap.size := by omega); (try have hs1w2 : w.heap.size + 1 < w2.heap.size := by omega); (try have hs2w2 : w.heap.size + 1 + 1 < w2.heap.size := by omega); (try have hs3w2 : w.heap.size + 1 + 1 + 1 < w2.heap.size := by omega)
        clear k0
        go_wp2
        refine bodyPost_ret (v := .tuple #[fl true t 0, .bool true, .int .i64 0]) (by simp [results, Try.results11, go_sem, *]) rfl ?_
        refine ⟨rfl, ?_⟩
        repeat' (first | exact Below.refl _ _ | assumption | (refine Below.setCell ?_ (by first | omega | (simp <;> omega)) _) | (refine Below.alloc ?_ (by first | omega | (simp <;> omega)) _) | (refine Below.drew ?_) | (refine Below.trans ?_ (Below.mono (by assumption) (by first | omega | (simp <;> omega)))))
      · by_cases hl : t < la
        · have hs : stepR true la pe t = ⟨false, 0, 0, false, 16⟩ := by simp [stepR, hv, ht, hl]
          rw [hs]; unfold StepR.val; clear hs
          go_enter Try.func11, Try.ntmps11
          go_wp2_with (first
            | (go_at_call 21; refine (valid_any _ _ _ _).mono ?_; rintro e w1 ⟨rfl, hbw1⟩; obtain ⟨hcw1, hfw1⟩ := bcell hbw1; have hzw1 := hbw1.size; (try simp at hzw1); (try have hs0w1 : w.heap.size < w1.heap.size := by omega); (try have hs1w1 : w.heap.size + 1 < w1.heap.size := by omega); (try have hs2w1 : w.heap.size + 1 + 1 < w1.heap.size := by omega); (try have hs3w1 : w.heap.size + 1 + 1 + 1 < w1.heap.size := by omega))
            | (go_at_call 26; refine (time_any _ _).mono ?_; rintro e w1 ⟨rfl, rfl⟩))
          refine bodyPost_ret (v := .tuple #[fl false 0 0, .bool false, .int .i64 16]) (by simp [results, Try.results11, go_sem, *]) rfl ?_
          refine ⟨rfl, ?_⟩
          repeat' (first | exact Below.refl _ _ | assumption | (refine Below.setCell ?_ (by first | omega | (simp <;> omega)) _) | (refine Below.alloc ?_ (by first | omega | (simp <;> omega)) _) | (refine Below.drew ?_) | (refine Below.trans ?_ (Below.mono (by assumption) (by first | omega | (simp <;> omega)))))
        · by_cases hk : t - la < blk true la pe
          · have hs : stepR true la pe t = ⟨true, la, pe, false, 0⟩ := by simp [stepR, hv, ht, hl, hk]
            rw [hs]; unfold StepR.val; clear hs
            go_enter Try.func11, Try.ntmps11
            go_wp2_with (first
              | (go_at_call 21; refine (valid_any _ _ _ _).mono ?_; rintro e w1 ⟨rfl, hbw1⟩; obtain ⟨hcw1, hfw1⟩ := bcell hbw1; have hzw1 := hbw1.size; (try simp at hzw1); (try have hs0w1 : w.heap.size < w1.heap.size := by omega); (try have hs1w1 : w.heap.size + 1 < w1.heap.size := by omega); (try have hs2w1 : w.heap.size + 1 + 1 < w1.heap.size := by omega); (try have hs3w1 : w.heap.size + 1 + 1 + 1 < w1.heap.size := by omega))
              | (go_at_call 26; refine (time_any _ _).mono ?_; rintro e w1 ⟨rfl, rfl⟩))
            have k0 := cell_regrown (w := w1) (a := ⟨w.heap.size, 0, none⟩) (v := .bool true) (by rw [hcw1 _ _ (by simp; omega)]; go_simp)
            have k1 := cell_regrown (w := w1) (a := ⟨w.heap.size, 1, none⟩) (v := .int .i64 la) (by rw [hcw1 _ _ (by simp; omega)]; go_simp)
            have k2 := cell_regrown (w := w1) (a := ⟨w.heap.size, 2, none⟩) (v := .int .i64 pe) (by rw [hcw1 _ _ (by simp; omega)]; go_simp)
            refine wp_region_quiet_below (by kernel_rfl) (by kernel_rfl) ?_
            repeat (any_goals (first | go_big_quiet_step ((exact Calls.regrown_of (blank_any _ _ _ _))) | quiet_step ((exact Calls.regrown_of (blank_any _ _ _ _)))))
            refine wpQuiet_nil ?_
            intro _ hw'
            obtain ⟨⟨dq, osq⟩, hw''⟩ := hw'
            subst hw''
            have hbw2 := below_regrown w1 dq osq
            generalize grow (redrawn w1 dq) osq = w2 at *
            obtain ⟨hcw2, hfw2⟩ := bcell hbw2
            have hzw2 := hbw2.size
            (try have hs0w2 : w.heap.size < w2.heap.size := by omega); (try have hs1w2 : w.heap.size + 1 < w2.heap.size := by omega); (try have hs2w2 : w.heap.size + 1 + 1 < w2.heap.size := by omega); (try have hs3w2 : w.heap.size + 1 + 1 + 1 < w2.heap.size := by omega)
            clear k0 k1 k2
            go_wp2
            refine bodyPost_ret (v := .tuple #[fl true la pe, .bool false, .int .i64 0]) (by simp [results, Try.results11, go_sem, *]) rfl ?_
            refine ⟨rfl, ?_⟩
            repeat' (first | exact Below.refl _ _ | assumption | (refine Below.setCell ?_ (by first | omega | (simp <;> omega)) _) | (refine Below.alloc ?_ (by first | omega | (simp <;> omega)) _) | (refine Below.drew ?_) | (refine Below.trans ?_ (Below.mono (by assumption) (by first | omega | (simp <;> omega)))))
          · have hs : stepR true la pe t = ⟨true, t, t - la, true, 0⟩ := by simp [stepR, hv, ht, hl, hk]
            rw [hs]; unfold StepR.val; clear hs
            go_enter Try.func11, Try.ntmps11
            go_wp2_with (first
              | (go_at_call 21; refine (valid_any _ _ _ _).mono ?_; rintro e w1 ⟨rfl, hbw1⟩; obtain ⟨hcw1, hfw1⟩ := bcell hbw1; have hzw1 := hbw1.size; (try simp at hzw1); (try have hs0w1 : w.heap.size < w1.heap.size := by omega); (try have hs1w1 : w.heap.size + 1 < w1.heap.size := by omega); (try have hs2w1 : w.heap.size + 1 + 1 < w1.heap.size := by omega); (try have hs3w1 : w.heap.size + 1 + 1 + 1 < w1.heap.size := by omega))
              | (go_at_call 26; refine (time_any _ _).mono ?_; rintro e w1 ⟨rfl, rfl⟩))
            have k0 := cell_regrown (w := w1) (a := ⟨w.heap.size, 0, none⟩) (v := .bool true) (by rw [hcw1 _ _ (by simp; omega)]; go_simp)
            have k1 := cell_regrown (w := w1) (a := ⟨w.heap.size, 1, none⟩) (v := .int .i64 la) (by rw [hcw1 _ _ (by simp; omega)]; go_simp)
            have k2 := cell_regrown (w := w1) (a := ⟨w.heap.size, 2, none⟩) (v := .int .i64 pe) (by rw [hcw1 _ _ (by simp; omega)]; go_simp)
            refine wp_region_quiet_below (by kernel_rfl) (by kernel_rfl) ?_
            repeat (any_goals (first | go_big_quiet_step ((exact Calls.regrown_of (blank_any _ _ _ _))) | quiet_step ((exact Calls.regrown_of (blank_any _ _ _ _)))))
            refine wpQuiet_nil ?_
            intro _ hw'
            obtain ⟨⟨dq, osq⟩, hw''⟩ := hw'
            subst hw''
            have hbw2 := below_regrown w1 dq osq
            generalize grow (redrawn w1 dq) osq = w2 at *
            obtain ⟨hcw2, hfw2⟩ := bcell hbw2
            have hzw2 := hbw2.size
            (try have hs0w2 : w.heap.size < w2.heap.size := by omega); (try have hs1w2 : w.heap.size + 1 < w2.heap.size := by omega); (try have hs2w2 : w.heap.size + 1 + 1 < w2.heap.size := by omega); (try have hs3w2 : w.heap.size + 1 + 1 + 1 < w2.heap.size := by omega)
            clear k0 k1 k2
            go_wp2
            refine bodyPost_ret (v := .tuple #[fl true t (t - la), .bool true, .int .i64 0]) (by simp [results, Try.results11, go_sem, *]) rfl ?_
            refine ⟨rfl, ?_⟩
            repeat' (first | exact Below.refl _ _ | assumption | (refine Below.setCell ?_ (by first | omega | (simp <;> omega)) _) | (refine Below.alloc ?_ (by first | omega | (simp <;> omega)) _) | (refine Below.drew ?_) | (refine Below.trans ?_ (Below.mono (by assumption) (by first | omega | (simp <;> omega)))))
    · have ht' : isTime t = false := by simpa using ht
      have hs : stepR sn la pe t = ⟨false, 0, 0, false, 2⟩ := by simp [stepR, hv, ht']
      rw [hs]; unfold StepR.val; clear hs ht
      go_enter Try.func11, Try.ntmps11
      go_wp2_with (first
        | (go_at_call 21; refine (valid_any _ _ _ _).mono ?_; rintro e w1 ⟨rfl, hbw1⟩; obtain ⟨hcw1, hfw1⟩ := bcell hbw1; have hzw1 := hbw1.size; (try simp at hzw1); (try have hs0w1 : w.heap.size < w1.heap.size := by omega); (try have hs1w1 : w.heap.size + 1 < w1.heap.size := by omega); (try have hs2w1 : w.heap.size + 1 + 1 < w1.heap.size := by omega); (try have hs3w1 : w.heap.size + 1 + 1 + 1 < w1.heap.size := by omega))
        | (go_at_call 26; refine (time_any _ _).mono ?_; rintro e w1 ⟨rfl, rfl⟩))
      refine bodyPost_ret (v := .tuple #[fl false 0 0, .bool false, .int .i64 2]) (by simp [results, Try.results11, go_sem, *]) rfl ?_
      refine ⟨rfl, ?_⟩
      repeat' (first | exact Below.refl _ _ | assumption | (refine Below.setCell ?_ (by first | omega | (simp <;> omega)) _) | (refine Below.alloc ?_ (by first | omega | (simp <;> omega)) _) | (refine Below.drew ?_) | (refine Below.trans ?_ (Below.mono (by assumption) (by first | omega | (simp <;> omega)))))
  · have hv' : vld sn la pe = false := by simpa using hv
    have hs : stepR sn la pe t = ⟨false, 0, 0, false, 1⟩ := by simp [stepR, hv']
    rw [hs]; unfold StepR.val; clear hs hv
    go_enter Try.func11, Try.ntmps11
    go_wp2_with (first
      | (go_at_call 21; refine (valid_any _ _ _ _).mono ?_; rintro e w1 ⟨rfl, hbw1⟩; obtain ⟨hcw1, hfw1⟩ := bcell hbw1; have hzw1 := hbw1.size; (try simp at hzw1); (try have hs0w1 : w.heap.size < w1.heap.size := by omega); (try have hs1w1 : w.heap.size + 1 < w1.heap.size := by omega); (try have hs2w1 : w.heap.size + 1 + 1 < w1.heap.size := by omega); (try have hs3w1 : w.heap.size + 1 + 1 + 1 < w1.heap.size := by omega))
      | (go_at_call 26; refine (time_any _ _).mono ?_; rintro e w1 ⟨rfl, rfl⟩))
    refine bodyPost_ret (v := .tuple #[fl false 0 0, .bool false, .int .i64 1]) (by simp [results, Try.results11, go_sem, *]) rfl ?_
    refine ⟨rfl, ?_⟩
    repeat' (first | exact Below.refl _ _ | assumption | (refine Below.setCell ?_ (by first | omega | (simp <;> omega)) _) | (refine Below.alloc ?_ (by first | omega | (simp <;> omega)) _) | (refine Below.drew ?_) | (refine Below.trans ?_ (Below.mono (by assumption) (by first | omega | (simp <;> omega)))))

end Go.Proofs.Ytnpoofddnmodoaa
