/- PlantSteps: for all parameters, states, throttles, torques, loads and times, Step returns the state after a step, and the run of the crank, or the specified error. No conditions. -/
import Derived.Test.YtnioihmchajmlaaG7
import Derived.Test.YtnioihmchajmlaaOpn
namespace Go.Proofs.Ytnioihmchajmlaa.plantSteps
open Go.ChangeShapes Go.WideShapes Go.ChangeAt Go.RowKit Go.Joins
set_option linter.unusedVariables false

theorem own : ownKnob Try.prog.godebug = none := by kernel_rfl
theorem laidOut : laidOutB Try.prog = true := by kernel_rfl

set_option maxRecDepth 100000 in
theorem lifted (os : Os) (started : os.Started) (H : Type) (enc : TypeId × Value → H) :
    ReturnsInHanded {} Try.checked os 3 .any (Rows.plantStepsSpec.pre6 enc Try.prog Try.f3 Rows.plantStepsRow.domain false) (Rows.plantStepsSpec.post enc Try.prog Try.f3 false true false false) := by
  refine returnsInHanded_of_change (C := Try.checked) own started (by kernel_rfl) Try.func3
    (ChangeSpec.witness6 (enc := enc) (C := Try.checked) false ⟨#[], #[.agg #[.int .i64 0, .int .i64 0, .int .i64 0, .int .i64 0, .int .i64 0, .int .i64 0, .int .i64 0], .agg #[.int .i64 0, .int .i64 0, .int .i64 0, .int .i64 0, .int .i64 0, .slice none 0 0], .int .i64 0, .int .i64 0, .int .i64 0, .int .i64 0], []⟩ 8 (by kernel_rfl) (by kernel_rfl) (by kernel_rfl) (by kernel_rfl)) ?_
  intro W base args ds gs before hval0 hW hcnd hsz
  have hval : ∀ (j : Nat) t v, Try.f3.params[j]? = some t → args[j]? = some v → Value.okWide Try.prog W .any base t v := hval0
  have hW' := hW
  obtain ⟨p, q, hA0, hV, rfl, hfz, hnd⟩ := hW
  have hA : DataW.TrodAll enc Try.prog W 0 (fun _ => true) true Try.f3.params.toList args.toList ds p := hA0
  rw [Try.params3] at hA hval
  obtain ⟨v0, vs0, d0, ds0, p0, q0, hargs, rfl, rfl, h0, r0⟩ := trodAll_cons hA
  obtain ⟨v1, vs1, d1, ds1, p1, q1, rfl, rfl, rfl, h1, r1⟩ := trodAll_cons r0
  obtain ⟨v2, vs2, d2, ds2, p2, q2, rfl, rfl, rfl, h2, r2⟩ := trodAll_cons r1
  obtain ⟨v3, vs3, d3, ds3, p3, q3, rfl, rfl, rfl, h3, r3⟩ := trodAll_cons r2
  obtain ⟨v4, vs4, d4, ds4, p4, q4, rfl, rfl, rfl, h4, r4⟩ := trodAll_cons r3
  obtain ⟨v5, vs5, d5, ds5, p5, q5, rfl, rfl, rfl, h5, r5⟩ := trodAll_cons r4
  obtain ⟨rfl, rfl, rfl⟩ := trodAll_nil r5
  obtain rfl : args = #[v0, v1, v2, v3, v4, v5] := by cases args; simp_all
  obtain ⟨rfl, rfl⟩ := trodVars_none hV
  have k0 := h0
  have lt0 : ∀ x ∈ p0, x.block < W.heap.size := by obtain ⟨m, hm⟩ := k0; exact DataW.trod_lt m _ _ _ hm
  have k1 := h1
  have lt1 : ∀ x ∈ p1, x.block < W.heap.size := by obtain ⟨m, hm⟩ := k1; exact DataW.trod_lt m _ _ _ hm
  have k2 := h2
  have lt2 : ∀ x ∈ p2, x.block < W.heap.size := by obtain ⟨m, hm⟩ := k2; exact DataW.trod_lt m _ _ _ hm
  have k3 := h3
  have lt3 : ∀ x ∈ p3, x.block < W.heap.size := by obtain ⟨m, hm⟩ := k3; exact DataW.trod_lt m _ _ _ hm
  have k4 := h4
  have lt4 : ∀ x ∈ p4, x.block < W.heap.size := by obtain ⟨m, hm⟩ := k4; exact DataW.trod_lt m _ _ _ hm
  have k5 := h5
  have lt5 : ∀ x ∈ p5, x.block < W.heap.size := by obtain ⟨m, hm⟩ := k5; exact DataW.trod_lt m _ _ _ hm
  obtain ⟨cs0, m0, rfl, sz0, fs0⟩ := open_fields Try.underlying23 (hval 0 23 v0 rfl rfl) h0
  obtain ⟨c0_0, c0_1, c0_2, c0_3, c0_4, c0_5, c0_6, rfl⟩ := arr7 (sz0.trans (by kernel_rfl))
  obtain ⟨y0_0, t0_0⟩ := fs0 0 _ rfl
  obtain ⟨a0_0, e0_0, _, w0_0⟩ := DataW.trod_int Try.underlying3 t0_0
  change List.take (Try.prog.cellsOf 3) (List.drop 0 [c0_0, c0_1, c0_2, c0_3, c0_4, c0_5, c0_6]) = _ at e0_0
  rw [show Try.prog.cellsOf 3 = 1 from by kernel_rfl] at e0_0
  simp only [List.drop_zero, List.take_succ_cons, List.take_zero, List.cons.injEq, and_true] at e0_0
  subst e0_0
  obtain ⟨y0_1, t0_1⟩ := fs0 1 _ rfl
  obtain ⟨a0_1, e0_1, _, w0_1⟩ := DataW.trod_int Try.underlying3 t0_1
  change List.take (Try.prog.cellsOf 3) (List.drop 1 [_, c0_1, c0_2, c0_3, c0_4, c0_5, c0_6]) = _ at e0_1
  rw [show Try.prog.cellsOf 3 = 1 from by kernel_rfl] at e0_1
  simp only [List.drop_succ_cons, List.drop_zero, List.take_succ_cons, List.take_zero, List.cons.injEq, and_true] at e0_1
  subst e0_1
  obtain ⟨y0_2, t0_2⟩ := fs0 2 _ rfl
  obtain ⟨a0_2, e0_2, _, w0_2⟩ := DataW.trod_int Try.underlying3 t0_2
  change List.take (Try.prog.cellsOf 3) (List.drop 2 [_, _, c0_2, c0_3, c0_4, c0_5, c0_6]) = _ at e0_2
  rw [show Try.prog.cellsOf 3 = 1 from by kernel_rfl] at e0_2
  simp only [List.drop_succ_cons, List.drop_zero, List.take_succ_cons, List.take_zero, List.cons.injEq, and_true] at e0_2
  subst e0_2
  obtain ⟨y0_3, t0_3⟩ := fs0 3 _ rfl
  obtain ⟨a0_3, e0_3, _, w0_3⟩ := DataW.trod_int Try.underlying3 t0_3
  change List.take (Try.prog.cellsOf 3) (List.drop 3 [_, _, _, c0_3, c0_4, c0_5, c0_6]) = _ at e0_3
  rw [show Try.prog.cellsOf 3 = 1 from by kernel_rfl] at e0_3
  simp only [List.drop_succ_cons, List.drop_zero, List.take_succ_cons, List.take_zero, List.cons.injEq, and_true] at e0_3
  subst e0_3
  obtain ⟨y0_4, t0_4⟩ := fs0 4 _ rfl
  obtain ⟨a0_4, e0_4, _, w0_4⟩ := DataW.trod_int Try.underlying3 t0_4
  change List.take (Try.prog.cellsOf 3) (List.drop 4 [_, _, _, _, c0_4, c0_5, c0_6]) = _ at e0_4
  rw [show Try.prog.cellsOf 3 = 1 from by kernel_rfl] at e0_4
  simp only [List.drop_succ_cons, List.drop_zero, List.take_succ_cons, List.take_zero, List.cons.injEq, and_true] at e0_4
  subst e0_4
  obtain ⟨y0_5, t0_5⟩ := fs0 5 _ rfl
  obtain ⟨a0_5, e0_5, _, w0_5⟩ := DataW.trod_int Try.underlying3 t0_5
  change List.take (Try.prog.cellsOf 3) (List.drop 5 [_, _, _, _, _, c0_5, c0_6]) = _ at e0_5
  rw [show Try.prog.cellsOf 3 = 1 from by kernel_rfl] at e0_5
  simp only [List.drop_succ_cons, List.drop_zero, List.take_succ_cons, List.take_zero, List.cons.injEq, and_true] at e0_5
  subst e0_5
  obtain ⟨y0_6, t0_6⟩ := fs0 6 _ rfl
  obtain ⟨a0_6, e0_6, _, w0_6⟩ := DataW.trod_int Try.underlying3 t0_6
  change List.take (Try.prog.cellsOf 3) (List.drop 6 [_, _, _, _, _, _, c0_6]) = _ at e0_6
  rw [show Try.prog.cellsOf 3 = 1 from by kernel_rfl] at e0_6
  simp only [List.drop_succ_cons, List.drop_zero, List.take_succ_cons, List.take_zero, List.cons.injEq, and_true] at e0_6
  subst e0_6
  obtain ⟨cs1, m1, rfl, sz1, fs1⟩ := open_fields Try.underlying26 (hval 1 26 v1 rfl rfl) h1
  obtain ⟨c1_0, c1_1, c1_2, c1_3, c1_4, c1_5, rfl⟩ := arr6 (sz1.trans (by kernel_rfl))
  obtain ⟨y1_0, t1_0⟩ := fs1 0 _ rfl
  obtain ⟨a1_0, e1_0, _, w1_0⟩ := DataW.trod_int Try.underlying3 t1_0
  change List.take (Try.prog.cellsOf 3) (List.drop 0 [c1_0, c1_1, c1_2, c1_3, c1_4, c1_5]) = _ at e1_0
  rw [show Try.prog.cellsOf 3 = 1 from by kernel_rfl] at e1_0
  simp only [List.drop_zero, List.take_succ_cons, List.take_zero, List.cons.injEq, and_true] at e1_0
  subst e1_0
  obtain ⟨y1_1, t1_1⟩ := fs1 1 _ rfl
  obtain ⟨a1_1, e1_1, _, w1_1⟩ := DataW.trod_int Try.underlying3 t1_1
  change List.take (Try.prog.cellsOf 3) (List.drop 1 [_, c1_1, c1_2, c1_3, c1_4, c1_5]) = _ at e1_1
  rw [show Try.prog.cellsOf 3 = 1 from by kernel_rfl] at e1_1
  simp only [List.drop_succ_cons, List.drop_zero, List.take_succ_cons, List.take_zero, List.cons.injEq, and_true] at e1_1
  subst e1_1
  obtain ⟨y1_2, t1_2⟩ := fs1 2 _ rfl
  obtain ⟨a1_2, e1_2, _, w1_2⟩ := DataW.trod_int Try.underlying3 t1_2
  change List.take (Try.prog.cellsOf 3) (List.drop 2 [_, _, c1_2, c1_3, c1_4, c1_5]) = _ at e1_2
  rw [show Try.prog.cellsOf 3 = 1 from by kernel_rfl] at e1_2
  simp only [List.drop_succ_cons, List.drop_zero, List.take_succ_cons, List.take_zero, List.cons.injEq, and_true] at e1_2
  subst e1_2
  obtain ⟨y1_3, t1_3⟩ := fs1 3 _ rfl
  obtain ⟨a1_3, e1_3, _, w1_3⟩ := DataW.trod_int Try.underlying3 t1_3
  change List.take (Try.prog.cellsOf 3) (List.drop 3 [_, _, _, c1_3, c1_4, c1_5]) = _ at e1_3
  rw [show Try.prog.cellsOf 3 = 1 from by kernel_rfl] at e1_3
  simp only [List.drop_succ_cons, List.drop_zero, List.take_succ_cons, List.take_zero, List.cons.injEq, and_true] at e1_3
  subst e1_3
  obtain ⟨y1_4, t1_4⟩ := fs1 4 _ rfl
  obtain ⟨a1_4, e1_4, _, w1_4⟩ := DataW.trod_int Try.underlying3 t1_4
  change List.take (Try.prog.cellsOf 3) (List.drop 4 [_, _, _, _, c1_4, c1_5]) = _ at e1_4
  rw [show Try.prog.cellsOf 3 = 1 from by kernel_rfl] at e1_4
  simp only [List.drop_succ_cons, List.drop_zero, List.take_succ_cons, List.take_zero, List.cons.injEq, and_true] at e1_4
  subst e1_4
  obtain ⟨y1_5, t1_5⟩ := fs1 5 _ rfl
  obtain ⟨z1_5, l1_5, e1_5, R1_5⟩ := ints_open_cs Try.underlying24 Try.underlying3 (by kernel_rfl) t1_5
  change List.take (Try.prog.cellsOf 24) (List.drop 5 [_, _, _, _, _, c1_5]) = _ at e1_5
  rw [show Try.prog.cellsOf 24 = 1 from by kernel_rfl] at e1_5
  simp only [List.drop_succ_cons, List.drop_zero, List.take_succ_cons, List.take_zero, List.cons.injEq, and_true] at e1_5
  have e1_5 := e1_5.symm
  subst e1_5
  obtain ⟨a2, rfl, _, _, w2⟩ := open_int Try.underlying3 (hval 2 3 v2 rfl rfl) h2
  obtain ⟨a3, rfl, _, _, w3⟩ := open_int Try.underlying3 (hval 3 3 v3 rfl rfl) h3
  obtain ⟨a4, rfl, _, _, w4⟩ := open_int Try.underlying3 (hval 4 3 v4 rfl rfl) h4
  obtain ⟨a5, rfl, _, _, w5⟩ := open_int Try.underlying3 (hval 5 3 v5 rfl rfl) h5
  clear hA0 hval0
  refine (walk_of steps_ok (args := [.agg [.int .i64 a0_0, .int .i64 a0_1, .int .i64 a0_2, .int .i64 a0_3, .int .i64 a0_4, .int .i64 a0_5, .int .i64 a0_6], .agg [.int .i64 a1_0, .int .i64 a1_1, .int .i64 a1_2, .int .i64 a1_3, .int .i64 a1_4, .row 0], .cel (.int .i64 a2), .cel (.int .i64 a3), .cel (.int .i64 a4), .cel (.int .i64 a5)]) (rows := [.ints .i64 l1_5]) (vs := [.agg #[.int .i64 a0_0, .int .i64 a0_1, .int .i64 a0_2, .int .i64 a0_3, .int .i64 a0_4, .int .i64 a0_5, .int .i64 a0_6], .agg #[.int .i64 a1_0, .int .i64 a1_1, .int .i64 a1_2, .int .i64 a1_3, .int .i64 a1_4, z1_5], .int .i64 a2, .int .i64 a3, .int .i64 a4, .int .i64 a5]) (ρ := [z1_5]) (W := W) rfl ⟨w0_0, w0_1, w0_2, w0_3, w0_4, w0_5, w0_6, w1_0, w1_1, w1_2, w1_3, w1_4, R1_5.2, w2, w3, w4, w5, trivial⟩ rfl (rowsAre_cons R1_5.1 (rowsAre0 W)) ⟨⟨[_, _, _, _, _, _, _], rfl, rfl, rfl, rfl, rfl, rfl, rfl, rfl, trivial⟩, ⟨[_, _, _, _, _, _], rfl, rfl, rfl, rfl, rfl, rfl, den_row R1_5.1 rfl, trivial⟩, rfl, rfl, rfl, rfl, trivial⟩).mono fun e W' ⟨he, bel⟩ => ?_
  subst he
  exact ⟨_, rfl, _, _, _, [], _, [], hW', trodAll_mk1 (shut_bool Try.underlying4 _), (trodAll_cons_mk (Below.trod laidOut (by kernel_rfl) (of_decide_eq_true (by kernel_rfl)) k0 bel lt0) (trodAll_cons_mk (Below.trod laidOut (by kernel_rfl) (of_decide_eq_true (by kernel_rfl)) k1 bel lt1) (trodAll_cons_mk (Below.trod laidOut (by kernel_rfl) (of_decide_eq_true (by kernel_rfl)) k2 bel lt2) (trodAll_cons_mk (Below.trod laidOut (by kernel_rfl) (of_decide_eq_true (by kernel_rfl)) k3 bel lt3) (trodAll_cons_mk (Below.trod laidOut (by kernel_rfl) (of_decide_eq_true (by kernel_rfl)) k4 bel lt4) (trodAll_cons_mk (Below.trod laidOut (by kernel_rfl) (of_decide_eq_true (by kernel_rfl)) k5 bel lt5) trodAll_mk0)))))), rfl, bel.frame _, fun h => by cases h⟩

/-- The statement. -/
theorem proved : Rows.PlantStepsSaid :=
  OpenClaim.holds_of_wide 3 Try.f3 rfl rfl rfl rfl rfl rfl rfl ⟨rfl, rfl, rfl, rfl, rfl⟩ rfl rfl rfl rfl rfl (by kernel_rfl) Try.func3 (by kernel_rfl)
    (of_decide_eq_true (by kernel_rfl)) (by unfold Func.isWrapper; first | (rw [if_pos (by decide +kernel)]; kernel_rfl) | (rw [if_neg (by decide +kernel)]; exact ⟨rfl, rfl⟩))
    (fun os started H enc _ => lifted os started H enc)
#print axioms proved
end Go.Proofs.Ytnioihmchajmlaa.plantSteps
