/- ToothRuns: Run returns the accepted edges of a list, or ErrArg. No conditions. The walk of the law. -/
import Derived.Test.YtnpoofddnmodoaaW6
namespace Go.Proofs.Ytnpoofddnmodoaa
open Go.RowKit Go.Sort

theorem law_runs (v : Value) (l : List Int) (w : World) (hr : Row w v l) : Calls Try.prog 4 #[v] w fun e w' => e = .returned (.bool true) ∧ Below w.heap.size w w' := by
  by_cases he : edgesB l = true
  · have HE := Lib.hid he
    go_enter Try.func4, Try.ntmps4
    go_wp2_with (go_at_call 10; refine (awake_any _).mono ?_; rintro e w1 ⟨rfl, hbw1⟩; obtain ⟨hcw1, hfw1⟩ := bcell hbw1; have hzw1 := hbw1.size; (try simp at hzw1); (try have hs0w1 : w.heap.size < w1.heap.size := by omega); (try have hs1w1 : w.heap.size + 1 < w1.heap.size := by omega); (try have hs2w1 : w.heap.size + 1 + 1 < w1.heap.size := by omega); (try have hs3w1 : w.heap.size + 1 + 1 + 1 < w1.heap.size := by omega); (try have hs_w1_w1 : w1.heap.size < w1.heap.size := by omega); (try have hs_w1p_w1 : w1.heap.size + 1 < w1.heap.size := by omega); (try have hs_w2_w1 : w2.heap.size < w1.heap.size := by omega); (try have hs_w2p_w1 : w2.heap.size + 1 < w1.heap.size := by omega); (try have hs_w3_w1 : w3.heap.size < w1.heap.size := by omega); (try have hs_w3p_w1 : w3.heap.size + 1 < w1.heap.size := by omega); (try have hs_w4_w1 : w4.heap.size < w1.heap.size := by omega); (try have hs_w4p_w1 : w4.heap.size + 1 < w1.heap.size := by omega); (try have hs_w5_w1 : w5.heap.size < w1.heap.size := by omega); (try have hs_w5p_w1 : w5.heap.size + 1 < w1.heap.size := by omega); (try have hs_w6_w1 : w6.heap.size < w1.heap.size := by omega); (try have hs_w6p_w1 : w6.heap.size + 1 < w1.heap.size := by omega))
    have hr1 := hr.below hbw1
    refine (run_ok _ _ _ hr1 HE.out).mono ?_
    rintro e w2 ⟨x, rfl, hx, hbw2⟩
    go_wp2_with fail
    refine (redges_any _ _ _ (hr1.below hbw2)).mono ?_
    rintro e w3 ⟨rfl, hbw3⟩
    go_wp2_with fail
    refine (rrun_any _ _ _ ((hr1.below hbw2).below hbw3) HE.out).mono ?_
    rintro e w4 ⟨y, rfl, hy, hbw4⟩
    go_wp2_with fail
    refine (equal_any _ _ _ _ _ ((hx.below hbw3).below hbw4) hy).mono ?_
    rintro e w5 ⟨rfl, hbw5⟩
    have e1 : decide (runL l = runL l) = true := by simp
    go_wp2
    go_ret
    have z1 := hbw1.size
    have z2 := hbw2.size
    have z3 := hbw3.size
    have z4 := hbw4.size
    refine ⟨rfl, ?_⟩
    repeat' (first | exact Below.refl _ _ | assumption | (refine Below.setCell ?_ (by first | omega | (simp <;> omega)) _) | (refine Below.alloc ?_ (by first | omega | (simp <;> omega)) _) | (refine Below.drew ?_) | (refine Below.trans ?_ (Below.mono (by assumption) (by first | omega | (simp <;> omega)))))
  · have he' : edgesB l = false := by simpa using he
    have HE := Lib.hid he'
    go_enter Try.func4, Try.ntmps4
    go_wp2_with (go_at_call 10; refine (awake_any _).mono ?_; rintro e w1 ⟨rfl, hbw1⟩; obtain ⟨hcw1, hfw1⟩ := bcell hbw1; have hzw1 := hbw1.size; (try simp at hzw1); (try have hs0w1 : w.heap.size < w1.heap.size := by omega); (try have hs1w1 : w.heap.size + 1 < w1.heap.size := by omega); (try have hs2w1 : w.heap.size + 1 + 1 < w1.heap.size := by omega); (try have hs3w1 : w.heap.size + 1 + 1 + 1 < w1.heap.size := by omega); (try have hs_w1_w1 : w1.heap.size < w1.heap.size := by omega); (try have hs_w1p_w1 : w1.heap.size + 1 < w1.heap.size := by omega); (try have hs_w2_w1 : w2.heap.size < w1.heap.size := by omega); (try have hs_w2p_w1 : w2.heap.size + 1 < w1.heap.size := by omega); (try have hs_w3_w1 : w3.heap.size < w1.heap.size := by omega); (try have hs_w3p_w1 : w3.heap.size + 1 < w1.heap.size := by omega); (try have hs_w4_w1 : w4.heap.size < w1.heap.size := by omega); (try have hs_w4p_w1 : w4.heap.size + 1 < w1.heap.size := by omega); (try have hs_w5_w1 : w5.heap.size < w1.heap.size := by omega); (try have hs_w5p_w1 : w5.heap.size + 1 < w1.heap.size := by omega); (try have hs_w6_w1 : w6.heap.size < w1.heap.size := by omega); (try have hs_w6p_w1 : w6.heap.size + 1 < w1.heap.size := by omega))
    have hr1 := hr.below hbw1
    refine (run_err _ _ _ hr1 HE.out).mono ?_
    rintro e w2 ⟨a, c, rfl, hbw2⟩
    go_wp2_with fail
    refine (redges_any _ _ _ (hr1.below hbw2)).mono ?_
    rintro e w3 ⟨rfl, hbw3⟩
    rw [HE.out]
    go_wp2
    go_ret
    have z1 := hbw1.size
    have z2 := hbw2.size
    refine ⟨rfl, ?_⟩
    repeat' (first | exact Below.refl _ _ | assumption | (refine Below.setCell ?_ (by first | omega | (simp <;> omega)) _) | (refine Below.alloc ?_ (by first | omega | (simp <;> omega)) _) | (refine Below.drew ?_) | (refine Below.trans ?_ (Below.mono (by assumption) (by first | omega | (simp <;> omega)))))

end Go.Proofs.Ytnpoofddnmodoaa
