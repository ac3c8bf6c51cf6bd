/- The example of the chapter: awake. -/
import Derived.Test.YtcaadikffaflnaaV9
import Derived.Test.YtcaadikffaflnaaVg
namespace Go.Proofs.Ytcaadikffaflnaa
open Go.RowKit Go.Sort

theorem awakeEdges : edgesB [0, 100, 200, 400, 500] = true := by decide
theorem awakeRun : runS 12 1 lost [0, 100, 200, 400, 500] = [⟨1, 0, 0, 0, 0, 0⟩, ⟨1, 0, 100, 100, 100, 1⟩, ⟨1, 0, 200, 100, 100, 2⟩, ⟨2, 0, 400, 200, 100, 0⟩, ⟨2, 1, 500, 100, 100, 0⟩] := by decide
theorem awakeWheel : wvld 12 1 = true := by decide
theorem awakeValid : svld 12 1 2 1 500 100 100 0 = true := by decide
theorem awakeLow : winLow 12 1 1 500 100 = 575 := by decide
theorem awakeHigh : winHigh 12 1 1 500 100 = 625 := by decide

theorem win_awake (w : World) : Calls Try.prog 21 #[wv 12 1, sv 2 1 500 100 100 0] w fun e w' => e = .returned (.tuple #[.int .i64 575, .int .i64 625]) ∧ Below w.heap.size w w' := by
  have h := window_ok 12 1 1 500 100 100 0 w awakeValid
  rw [awakeLow, awakeHigh] at h
  exact h

theorem awake_any (w : World) : Calls Try.prog 9 #[] w fun e w' => e = .returned (.bool true) ∧ Below w.heap.size w w' := by
  go_enter Try.func9, Try.ntmps9
  go_wp2_with fail
  refine (run_ok 12 1 _ _ _ (Row.lit [0, 100, 200, 400, 500] (by rfl) (by simp) (by rfl) (by rfl) (by decide) (by decide)) awakeWheel awakeEdges).mono ?_
  rintro e w2 ⟨r, rfl, hr, hbw2⟩
  rw [awakeRun] at hr
  obtain ⟨⟨a, cap, rfl, hlc, hcm, hcell⟩⟩ := hr
  obtain ⟨b, off, rfl, hbs, hc⟩ := hcell (by simp)
  unfold maxLen at hcm
  simp only [List.length_cons, List.length_nil] at hlc ⊢
  have f0_0 : w2.cell? ⟨b, off, none⟩ = some (.int .i64 1) := by simpa using hc 0 _ rfl 0 _ rfl
  have f0_1 : w2.cell? ⟨b, off + 1, none⟩ = some (.int .i64 0) := by simpa using hc 0 _ rfl 1 _ rfl
  have f0_2 : w2.cell? ⟨b, off + 2, none⟩ = some (.int .i64 0) := by simpa using hc 0 _ rfl 2 _ rfl
  have f0_3 : w2.cell? ⟨b, off + 3, none⟩ = some (.int .i64 0) := by simpa using hc 0 _ rfl 3 _ rfl
  have f0_4 : w2.cell? ⟨b, off + 4, none⟩ = some (.int .i64 0) := by simpa using hc 0 _ rfl 4 _ rfl
  have f0_5 : w2.cell? ⟨b, off + 5, none⟩ = some (.int .i64 0) := by simpa using hc 0 _ rfl 5 _ rfl
  have f3_0 : w2.cell? ⟨b, off + 18, none⟩ = some (.int .i64 2) := by simpa using hc 3 _ rfl 0 _ rfl
  have f3_1 : w2.cell? ⟨b, off + 19, none⟩ = some (.int .i64 0) := by simpa using hc 3 _ rfl 1 _ rfl
  have f3_2 : w2.cell? ⟨b, off + 20, none⟩ = some (.int .i64 400) := by simpa using hc 3 _ rfl 2 _ rfl
  have f3_3 : w2.cell? ⟨b, off + 21, none⟩ = some (.int .i64 200) := by simpa using hc 3 _ rfl 3 _ rfl
  have f3_4 : w2.cell? ⟨b, off + 22, none⟩ = some (.int .i64 100) := by simpa using hc 3 _ rfl 4 _ rfl
  have f3_5 : w2.cell? ⟨b, off + 23, none⟩ = some (.int .i64 0) := by simpa using hc 3 _ rfl 5 _ rfl
  have f4_0 : w2.cell? ⟨b, off + 24, none⟩ = some (.int .i64 2) := by simpa using hc 4 _ rfl 0 _ rfl
  have f4_1 : w2.cell? ⟨b, off + 25, none⟩ = some (.int .i64 1) := by simpa using hc 4 _ rfl 1 _ rfl
  have f4_2 : w2.cell? ⟨b, off + 26, none⟩ = some (.int .i64 500) := by simpa using hc 4 _ rfl 2 _ rfl
  have f4_3 : w2.cell? ⟨b, off + 27, none⟩ = some (.int .i64 100) := by simpa using hc 4 _ rfl 3 _ rfl
  have f4_4 : w2.cell? ⟨b, off + 28, none⟩ = some (.int .i64 100) := by simpa using hc 4 _ rfl 4 _ rfl
  have f4_5 : w2.cell? ⟨b, off + 29, none⟩ = some (.int .i64 0) := by simpa using hc 4 _ rfl 5 _ rfl
  clear hc hcell
  obtain ⟨hcw2, hfw2⟩ := bcell hbw2
  have hzw2 := hbw2.size
  simp at hzw2
  (try have hs0w2 : w.heap.size < w2.heap.size := by omega); (try have hs1w2 : w.heap.size + 1 < w2.heap.size := by omega); (try have hs2w2 : w.heap.size + 1 + 1 < w2.heap.size := by omega); (try have hs3w2 : w.heap.size + 1 + 1 + 1 < w2.heap.size := by omega); (try have hs_w1_w2 : w1.heap.size < w2.heap.size := by omega); (try have hs_w1p_w2 : w1.heap.size + 1 < w2.heap.size := by omega); (try have hs_w2_w2 : w2.heap.size < w2.heap.size := by omega); (try have hs_w2p_w2 : w2.heap.size + 1 < w2.heap.size := by omega); (try have hs_w3_w2 : w3.heap.size < w2.heap.size := by omega); (try have hs_w3p_w2 : w3.heap.size + 1 < w2.heap.size := by omega); (try have hs_w4_w2 : w4.heap.size < w2.heap.size := by omega); (try have hs_w4p_w2 : w4.heap.size + 1 < w2.heap.size := by omega); (try have hs_w5_w2 : w5.heap.size < w2.heap.size := by omega); (try have hs_w5p_w2 : w5.heap.size + 1 < w2.heap.size := by omega); (try have hs_w6_w2 : w6.heap.size < w2.heap.size := by omega); (try have hs_w6p_w2 : w6.heap.size + 1 < w2.heap.size := by omega)
  go_wp2_with fail
  have k0 := cell_regrown (w := w2) (a := ⟨w.heap.size, 0, none⟩) (v := .int .i64 12) ((hcw2 (w.heap.size) (0) (by first | omega | (simp <;> omega))).trans (by go_simp))
  have k1 := cell_regrown (w := w2) (a := ⟨w.heap.size, 1, none⟩) (v := .int .i64 1) ((hcw2 (w.heap.size) (1) (by first | omega | (simp <;> omega))).trans (by go_simp))
  have r0 := cell_regrown f4_0
  have r1 := cell_regrown f4_1
  have r2 := cell_regrown f4_2
  have r3 := cell_regrown f4_3
  have r4 := cell_regrown f4_4
  have r5 := cell_regrown f4_5
  refine wp_region_quiet_below (by kernel_rfl) (by kernel_rfl) ?_
  repeat (any_goals (first | go_big_quiet_step ((exact Calls.regrown_of (win_awake _))) | quiet_step ((exact Calls.regrown_of (win_awake _)))))
  refine wpQuiet_nil ?_
  intro _ hw'
  obtain ⟨⟨dq, osq⟩, hw''⟩ := hw'
  subst hw''
  have hbw3 := below_regrown w2 dq osq
  generalize grow (redrawn w2 dq) osq = w3 at *
  obtain ⟨hcw3, hfw3⟩ := bcell hbw3
  have hzw3 := hbw3.size
  (try have hs0w3 : w.heap.size < w3.heap.size := by omega); (try have hs1w3 : w.heap.size + 1 < w3.heap.size := by omega); (try have hs2w3 : w.heap.size + 1 + 1 < w3.heap.size := by omega); (try have hs3w3 : w.heap.size + 1 + 1 + 1 < w3.heap.size := by omega); (try have hs_w1_w3 : w1.heap.size < w3.heap.size := by omega); (try have hs_w1p_w3 : w1.heap.size + 1 < w3.heap.size := by omega); (try have hs_w2_w3 : w2.heap.size < w3.heap.size := by omega); (try have hs_w2p_w3 : w2.heap.size + 1 < w3.heap.size := by omega); (try have hs_w3_w3 : w3.heap.size < w3.heap.size := by omega); (try have hs_w3p_w3 : w3.heap.size + 1 < w3.heap.size := by omega); (try have hs_w4_w3 : w4.heap.size < w3.heap.size := by omega); (try have hs_w4p_w3 : w4.heap.size + 1 < w3.heap.size := by omega); (try have hs_w5_w3 : w5.heap.size < w3.heap.size := by omega); (try have hs_w5p_w3 : w5.heap.size + 1 < w3.heap.size := by omega); (try have hs_w6_w3 : w6.heap.size < w3.heap.size := by omega); (try have hs_w6p_w3 : w6.heap.size + 1 < w3.heap.size := by omega)
  clear k0 k1 r0 r1 r2 r3 r4 r5
  have g4_0 := (hbw3.cell (p := ⟨b, off + 24, none⟩) hbs).trans f4_0
  have g4_1 := (hbw3.cell (p := ⟨b, off + 25, none⟩) hbs).trans f4_1
  have g4_2 := (hbw3.cell (p := ⟨b, off + 26, none⟩) hbs).trans f4_2
  have g4_3 := (hbw3.cell (p := ⟨b, off + 27, none⟩) hbs).trans f4_3
  have g4_4 := (hbw3.cell (p := ⟨b, off + 28, none⟩) hbs).trans f4_4
  have g4_5 := (hbw3.cell (p := ⟨b, off + 29, none⟩) hbs).trans f4_5
  clear f0_0 f0_1 f0_2 f0_3 f0_4 f0_5
  clear f3_0 f3_1 f3_2 f3_3 f3_4 f3_5
  clear f4_0 f4_1 f4_2 f4_3 f4_4 f4_5
  clear hcw2 hfw2 hcw3 hfw3
  go_wp2
  go_ret
  refine ⟨rfl, ?_⟩
  repeat' (first | (with_reducible refine Below.setCell ?_ ?_ _) | (with_reducible refine Below.alloc ?_ ?_ _) | (with_reducible refine Below.drew ?_) | (with_reducible exact Below.refl _ _) | (with_reducible assumption) | (with_reducible refine Below.trans ?_ (Below.mono (by assumption) ?_)) | omega | (simp <;> omega))

end Go.Proofs.Ytcaadikffaflnaa
