/- The contracts of the reference's Step and Blank; the law ToothSteps. -/
import Derived.Test.YtnpoofddnmodoaaEq
namespace Go.Proofs.Ytnpoofddnmodoaa
open Go.RowKit Go.Sort

theorem blk_true (la pe : Int) (hv : vld true la pe = true) : blk true la pe = (if pe / 4 > 20 then pe / 4 else 20) := by
  unfold blk; rw [if_pos ⟨hv, rfl⟩]
theorem blk_false (la pe : Int) : blk false la pe = 0 := by
  unfold blk; rw [if_neg (by simp)]
theorem vld_pe {sn : Bool} {la pe : Int} (hv : vld sn la pe = true) : 0 ≤ pe ∧ pe ≤ 1099511627776 ∧ 0 ≤ la ∧ la ≤ 1099511627776 := by simp [vld] at hv; omega

theorem rblank_any (sn : Bool) (la pe : Int) (w : World) (hv : vld sn la pe = true) : Calls Try.prog 24 #[fl sn la pe] w fun e w' => e = .returned (.int .i64 (blk sn la pe)) ∧ Below w.heap.size w w' := by
  obtain ⟨h0, h1, _, _⟩ := vld_pe hv
  cases sn
  · rw [blk_false]
    clear hv
    go_enter Try.func24, Try.ntmps24
    go_wp2
    go_ret
    refine ⟨rfl, ?_⟩
    repeat' (first | exact Below.refl _ _ | assumption | (refine Below.setCell ?_ (by first | omega | (simp <;> omega)) _) | (refine Below.alloc ?_ (by first | omega | (simp <;> omega)) _) | (refine Below.drew ?_) | (refine Below.trans ?_ (Below.mono (by assumption) (by first | omega | (simp <;> omega)))))
  · rw [blk_true _ _ hv]
    clear hv
    by_cases h20 : 20 < pe / 4
    · rw [if_pos h20]
      go_enter Try.func24, Try.ntmps24
      go_wp2
      go_ret
      refine ⟨rfl, ?_⟩
      repeat' (first | exact Below.refl _ _ | assumption | (refine Below.setCell ?_ (by first | omega | (simp <;> omega)) _) | (refine Below.alloc ?_ (by first | omega | (simp <;> omega)) _) | (refine Below.drew ?_) | (refine Below.trans ?_ (Below.mono (by assumption) (by first | omega | (simp <;> omega)))))
    · rw [if_neg h20]
      go_enter Try.func24, Try.ntmps24
      go_wp2
      go_ret
      refine ⟨rfl, ?_⟩
      repeat' (first | exact Below.refl _ _ | assumption | (refine Below.setCell ?_ (by first | omega | (simp <;> omega)) _) | (refine Below.alloc ?_ (by first | omega | (simp <;> omega)) _) | (refine Below.drew ?_) | (refine Below.trans ?_ (Below.mono (by assumption) (by first | omega | (simp <;> omega)))))

theorem rstep_any (sn : Bool) (la pe t : Int) (w : World) (hv : vld sn la pe = true) (ht : isTime t = true) (hl : sn = true → la ≤ t) :
    Calls Try.prog 14 #[fl sn la pe, .int .i64 t] w fun e w' => e = .returned (.tuple #[fl (stepR sn la pe t).sn (stepR sn la pe t).la (stepR sn la pe t).pe, .bool (stepR sn la pe t).ok]) ∧ Below w.heap.size w w' := by
  have l0 : 0 ≤ la := by simp [vld] at hv; omega
  have l1 : la ≤ 1099511627776 := by simp [vld] at hv; omega
  have t0 : 0 ≤ t := by simp [isTime] at ht; omega
  have t1 : t ≤ 1099511627776 := by simp [isTime] at ht; omega
  cases sn
  · have hs : stepR false la pe t = ⟨true, t, 0, true, 0⟩ := by simp [stepR, hv, ht]
    rw [hs]; simp only; clear hs hl hv ht
    go_enter Try.func14, Try.ntmps14
    go_wp2_with fail
    refine wp_world ?_
    intro w1 hbw1
    obtain ⟨hcw1, hfw1⟩ := bcell hbw1
    have hzw1 := hbw1.size
    (try simp at hzw1)
    (try have hs0w1 : w.heap.size < w1.heap.size := by omega); (try have hs1w1 : w.heap.size + 1 < w1.heap.size := by omega); (try have hs2w1 : w.heap.size + 1 + 1 < w1.heap.size := by omega); (try have hs3w1 : w.heap.size + 1 + 1 + 1 < w1.heap.size := by omega)
    have k0 := cell_regrown (w := w1) (a := ⟨w.heap.size, 0, none⟩) (v := .bool false) (by rw [hcw1 _ _ (by simp <;> omega)]; go_simp)
    refine wp_region_quiet_below (by kernel_rfl) (by kernel_rfl) ?_
    repeat (any_goals (first | go_big_quiet_step (fail) | quiet_step (fail)))
    refine wpQuiet_nil ?_
    intro _ hw'
    obtain ⟨⟨dq, osq⟩, hw''⟩ := hw'
    subst hw''
    have hbw2 := below_regrown w1 dq osq
    generalize grow (redrawn w1 dq) osq = w2 at *
    obtain ⟨hcw2, hfw2⟩ := bcell hbw2
    have hzw2 := hbw2.size
    (try have hs0w2 : w.heap.size < w2.heap.size := by omega); (try have hs1w2 : w.heap.size + 1 < w2.heap.size := by omega); (try have hs2w2 : w.heap.size + 1 + 1 < w2.heap.size := by omega); (try have hs3w2 : w.heap.size + 1 + 1 + 1 < w2.heap.size := by omega)
    clear k0
    go_wp2
    refine bodyPost_ret (v := .tuple #[fl true t 0, .bool true]) (by simp [results, Try.results14, go_sem, *]) rfl ?_
    refine ⟨rfl, ?_⟩
    repeat' (first | exact Below.refl _ _ | assumption | (refine Below.setCell ?_ (by first | omega | (simp <;> omega)) _) | (refine Below.alloc ?_ (by first | omega | (simp <;> omega)) _) | (refine Below.drew ?_) | (refine Below.trans ?_ (Below.mono (by assumption) (by first | omega | (simp <;> omega)))))
  · have hl := hl rfl
    have HV := Lib.hid hv
    by_cases hk : t - la < blk true la pe
    · have hs : stepR true la pe t = ⟨true, la, pe, false, 0⟩ := by simp [stepR, hv, ht, hk]; omega
      rw [hs]; simp only; clear hs hv ht
      go_enter Try.func14, Try.ntmps14
      go_wp2_with fail
      refine wp_world ?_
      intro w1 hbw1
      obtain ⟨hcw1, hfw1⟩ := bcell hbw1
      have hzw1 := hbw1.size
      (try simp at hzw1)
      (try have hs0w1 : w.heap.size < w1.heap.size := by omega); (try have hs1w1 : w.heap.size + 1 < w1.heap.size := by omega); (try have hs2w1 : w.heap.size + 1 + 1 < w1.heap.size := by omega); (try have hs3w1 : w.heap.size + 1 + 1 + 1 < w1.heap.size := by omega)
      have k0 := cell_regrown (w := w1) (a := ⟨w.heap.size, 0, none⟩) (v := .bool true) (by rw [hcw1 _ _ (by simp <;> omega)]; go_simp)
      have k1 := cell_regrown (w := w1) (a := ⟨w.heap.size, 1, none⟩) (v := .int .i64 la) (by rw [hcw1 _ _ (by simp <;> omega)]; go_simp)
      have k2 := cell_regrown (w := w1) (a := ⟨w.heap.size, 2, none⟩) (v := .int .i64 pe) (by rw [hcw1 _ _ (by simp <;> omega)]; go_simp)
      refine wp_region_quiet_below (by kernel_rfl) (by kernel_rfl) ?_
      repeat (any_goals (first | go_big_quiet_step ((exact Calls.regrown_of (rblank_any _ _ _ _ HV.out))) | quiet_step ((exact Calls.regrown_of (rblank_any _ _ _ _ HV.out)))))
      refine wpQuiet_nil ?_
      intro _ hw'
      obtain ⟨⟨dq, osq⟩, hw''⟩ := hw'
      subst hw''
      have hbw2 := below_regrown w1 dq osq
      generalize grow (redrawn w1 dq) osq = w2 at *
      obtain ⟨hcw2, hfw2⟩ := bcell hbw2
      have hzw2 := hbw2.size
      (try have hs0w2 : w.heap.size < w2.heap.size := by omega); (try have hs1w2 : w.heap.size + 1 < w2.heap.size := by omega); (try have hs2w2 : w.heap.size + 1 + 1 < w2.heap.size := by omega); (try have hs3w2 : w.heap.size + 1 + 1 + 1 < w2.heap.size := by omega)
      clear k0 k1 k2
      go_wp2
      refine bodyPost_ret (v := .tuple #[fl true la pe, .bool false]) (by simp [results, Try.results14, go_sem, *]) rfl ?_
      refine ⟨rfl, ?_⟩
      repeat' (first | exact Below.refl _ _ | assumption | (refine Below.setCell ?_ (by first | omega | (simp <;> omega)) _) | (refine Below.alloc ?_ (by first | omega | (simp <;> omega)) _) | (refine Below.drew ?_) | (refine Below.trans ?_ (Below.mono (by assumption) (by first | omega | (simp <;> omega)))))
    · have hs : stepR true la pe t = ⟨true, t, t - la, true, 0⟩ := by simp [stepR, hv, ht, hk]; omega
      rw [hs]; simp only; clear hs hv ht
      go_enter Try.func14, Try.ntmps14
      go_wp2_with fail
      refine wp_world ?_
      intro w1 hbw1
      obtain ⟨hcw1, hfw1⟩ := bcell hbw1
      have hzw1 := hbw1.size
      (try simp at hzw1)
      (try have hs0w1 : w.heap.size < w1.heap.size := by omega); (try have hs1w1 : w.heap.size + 1 < w1.heap.size := by omega); (try have hs2w1 : w.heap.size + 1 + 1 < w1.heap.size := by omega); (try have hs3w1 : w.heap.size + 1 + 1 + 1 < w1.heap.size := by omega)
      have k0 := cell_regrown (w := w1) (a := ⟨w.heap.size, 0, none⟩) (v := .bool true) (by rw [hcw1 _ _ (by simp <;> omega)]; go_simp)
      have k1 := cell_regrown (w := w1) (a := ⟨w.heap.size, 1, none⟩) (v := .int .i64 la) (by rw [hcw1 _ _ (by simp <;> omega)]; go_simp)
      have k2 := cell_regrown (w := w1) (a := ⟨w.heap.size, 2, none⟩) (v := .int .i64 pe) (by rw [hcw1 _ _ (by simp <;> omega)]; go_simp)
      refine wp_region_quiet_below (by kernel_rfl) (by kernel_rfl) ?_
      repeat (any_goals (first | go_big_quiet_step ((exact Calls.regrown_of (rblank_any _ _ _ _ HV.out))) | quiet_step ((exact Calls.regrown_of (rblank_any _ _ _ _ HV.out)))))
      refine wpQuiet_nil ?_
      intro _ hw'
      obtain ⟨⟨dq, osq⟩, hw''⟩ := hw'
      subst hw''
      have hbw2 := below_regrown w1 dq osq
      generalize grow (redrawn w1 dq) osq = w2 at *
      obtain ⟨hcw2, hfw2⟩ := bcell hbw2
      have hzw2 := hbw2.size
      (try have hs0w2 : w.heap.size < w2.heap.size := by omega); (try have hs1w2 : w.heap.size + 1 < w2.heap.size := by omega); (try have hs2w2 : w.heap.size + 1 + 1 < w2.heap.size := by omega); (try have hs3w2 : w.heap.size + 1 + 1 + 1 < w2.heap.size := by omega)
      clear k0 k1 k2
      go_wp2
      refine bodyPost_ret (v := .tuple #[fl true t (t - la), .bool true]) (by simp [results, Try.results14, go_sem, *]) rfl ?_
      refine ⟨rfl, ?_⟩
      repeat' (first | exact Below.refl _ _ | assumption | (refine Below.setCell ?_ (by first | omega | (simp <;> omega)) _) | (refine Below.alloc ?_ (by first | omega | (simp <;> omega)) _) | (refine Below.drew ?_) | (refine Below.trans ?_ (Below.mono (by assumption) (by first | omega | (simp <;> omega)))))

theorem rstep_eq {sn : Bool} {la pe t : Int} {sn' : Bool} {la' pe' : Int} {ok : Bool} {er : Int} (h : stepR sn la pe t = ⟨sn', la', pe', ok, er⟩) (w : World) (hv : vld sn la pe = true) (ht : isTime t = true) (hl : sn = true → la ≤ t) :
    Calls Try.prog 14 #[fl sn la pe, .int .i64 t] w fun e w' => e = .returned (.tuple #[fl sn' la' pe', .bool ok]) ∧ Below w.heap.size w w' :=
  (rstep_any sn la pe t w hv ht hl).mono fun e w' ⟨h1, h2⟩ => ⟨by rw [h1, h], h2⟩

theorem stepR_er0 (sn : Bool) (la pe t : Int) (hv : vld sn la pe = true) (ht : isTime t = true) (hl : sn = true → la ≤ t) : ∃ sn' la' pe' ok, stepR sn la pe t = ⟨sn', la', pe', ok, 0⟩ := by
  simp only [stepR]
  rw [if_neg (by simp [hv]), if_neg (by simp [ht])]
  split
  · rename_i h; rw [if_neg (by have := hl h; omega)]; split <;> exact ⟨_, _, _, _, rfl⟩
  · exact ⟨_, _, _, _, rfl⟩

end Go.Proofs.Ytnpoofddnmodoaa
