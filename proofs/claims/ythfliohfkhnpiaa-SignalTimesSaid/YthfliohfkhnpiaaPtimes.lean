/- SignalTimes: for every wheel, motion and time, the time of each crank edge is the first one at which its position is reached, and there is an edge for each tooth that has passed. No conditions. -/
import Derived.Test.YthfliohfkhnpiaaJ8
import Derived.Test.YthfliohfkhnpiaaOpn
namespace Go.Proofs.Ythfliohfkhnpiaa.signalTimes
open Go.ChangeShapes Go.WideShapes Go.ChangeAt Go.RowKit Go.Joins
set_option linter.unusedVariables false

theorem own : ownKnob Try.prog.godebug = none := by kernel_rfl
theorem laidOut : laidOutB Try.prog = true := by kernel_rfl

set_option maxRecDepth 100000 in
theorem lifted (os : Os) (started : os.Started) (H : Type) (enc : TypeId × Value → H) :
    ReturnsInHanded {} Try.checked os 5 .any (Rows.signalTimesSpec.pre6 enc Try.prog Try.f5 Rows.signalTimesRow.domain false) (Rows.signalTimesSpec.post enc Try.prog Try.f5 false true false false) := by
  refine returnsInHanded_of_change (C := Try.checked) own started (by kernel_rfl) Try.func5
    (ChangeSpec.witness6 (enc := enc) (C := Try.checked) false ⟨#[], #[.agg #[.int .i64 0, .int .i64 0], .agg #[.int .i64 0, .slice none 0 0], .int .i64 0], []⟩ 8 (by kernel_rfl) (by kernel_rfl) (by kernel_rfl) (by kernel_rfl)) ?_
  intro W base args ds gs before hval0 hW hcnd hsz
  have hval : ∀ (j : Nat) t v, Try.f5.params[j]? = some t → args[j]? = some v → Value.okWide Try.prog W .any base t v := hval0
  have hW' := hW
  obtain ⟨p, q, hA0, hV, rfl, hfz, hnd⟩ := hW
  have hA : DataW.TrodAll enc Try.prog W 0 (fun _ => true) true Try.f5.params.toList args.toList ds p := hA0
  rw [Try.params5] at hA hval
  obtain ⟨v0, vs0, d0, ds0, p0, q0, hargs, rfl, rfl, h0, r0⟩ := trodAll_cons hA
  obtain ⟨v1, vs1, d1, ds1, p1, q1, rfl, rfl, rfl, h1, r1⟩ := trodAll_cons r0
  obtain ⟨v2, vs2, d2, ds2, p2, q2, rfl, rfl, rfl, h2, r2⟩ := trodAll_cons r1
  obtain ⟨rfl, rfl, rfl⟩ := trodAll_nil r2
  obtain rfl : args = #[v0, v1, v2] := by cases args; simp_all
  obtain ⟨rfl, rfl⟩ := trodVars_none hV
  have k0 := h0
  have lt0 : ∀ x ∈ p0, x.block < W.heap.size := by obtain ⟨m, hm⟩ := k0; exact DataW.trod_lt m _ _ _ hm
  have k1 := h1
  have lt1 : ∀ x ∈ p1, x.block < W.heap.size := by obtain ⟨m, hm⟩ := k1; exact DataW.trod_lt m _ _ _ hm
  have k2 := h2
  have lt2 : ∀ x ∈ p2, x.block < W.heap.size := by obtain ⟨m, hm⟩ := k2; exact DataW.trod_lt m _ _ _ hm
  obtain ⟨cs0, m0, rfl, sz0, fs0⟩ := open_fields Try.underlying23 (hval 0 23 v0 rfl rfl) h0
  obtain ⟨c0_0, c0_1, rfl⟩ := arr2 (sz0.trans (by kernel_rfl))
  obtain ⟨y0_0, t0_0⟩ := fs0 0 _ rfl
  obtain ⟨a0_0, e0_0, _, w0_0⟩ := DataW.trod_int Try.underlying3 t0_0
  change List.take (Try.prog.cellsOf 3) (List.drop 0 [c0_0, c0_1]) = _ at e0_0
  rw [show Try.prog.cellsOf 3 = 1 from by kernel_rfl] at e0_0
  simp only [List.drop_zero, List.take_succ_cons, List.take_zero, List.cons.injEq, and_true] at e0_0
  subst e0_0
  obtain ⟨y0_1, t0_1⟩ := fs0 1 _ rfl
  obtain ⟨a0_1, e0_1, _, w0_1⟩ := DataW.trod_int Try.underlying3 t0_1
  change List.take (Try.prog.cellsOf 3) (List.drop 1 [_, c0_1]) = _ at e0_1
  rw [show Try.prog.cellsOf 3 = 1 from by kernel_rfl] at e0_1
  simp only [List.drop_succ_cons, List.drop_zero, List.take_succ_cons, List.take_zero, List.cons.injEq, and_true] at e0_1
  subst e0_1
  obtain ⟨cs1, m1, rfl, sz1, fs1⟩ := open_fields Try.underlying26 (hval 1 26 v1 rfl rfl) h1
  obtain ⟨c1_0, c1_1, rfl⟩ := arr2 (sz1.trans (by kernel_rfl))
  obtain ⟨y1_0, t1_0⟩ := fs1 0 _ rfl
  obtain ⟨a1_0, e1_0, _, w1_0⟩ := DataW.trod_int Try.underlying3 t1_0
  change List.take (Try.prog.cellsOf 3) (List.drop 0 [c1_0, c1_1]) = _ at e1_0
  rw [show Try.prog.cellsOf 3 = 1 from by kernel_rfl] at e1_0
  simp only [List.drop_zero, List.take_succ_cons, List.take_zero, List.cons.injEq, and_true] at e1_0
  subst e1_0
  obtain ⟨y1_1, t1_1⟩ := fs1 1 _ rfl
  obtain ⟨z1_1, l1_1, e1_1, R1_1⟩ := recs_open_cs [.int .i64, .int .i64] Try.underlying24 Try.underlying93 (by kernel_rfl) (by kernel_rfl) (by decide) t1_1
  change List.take (Try.prog.cellsOf 24) (List.drop 1 [_, c1_1]) = _ at e1_1
  rw [show Try.prog.cellsOf 24 = 1 from by kernel_rfl] at e1_1
  simp only [List.drop_succ_cons, List.drop_zero, List.take_succ_cons, List.take_zero, List.cons.injEq, and_true] at e1_1
  have e1_1 := e1_1.symm
  subst e1_1
  obtain ⟨a2, rfl, _, _, w2⟩ := open_int Try.underlying3 (hval 2 3 v2 rfl rfl) h2
  clear hA0 hval0
  refine (walk_of times_ok (args := [.agg [.int .i64 a0_0, .int .i64 a0_1], .agg [.int .i64 a1_0, .row 0], .cel (.int .i64 a2)]) (rows := [.recs [.int .i64, .int .i64] l1_1]) (vs := [.agg #[.int .i64 a0_0, .int .i64 a0_1], .agg #[.int .i64 a1_0, z1_1], .int .i64 a2]) (ρ := [z1_1]) (W := W) rfl ⟨w0_0, w0_1, w1_0, R1_1.2, w2, lenB_ofR R1_1.1, trivial⟩ rfl (rowsAre_cons R1_1.1 (rowsAre0 W)) ⟨⟨[_, _], rfl, rfl, rfl, trivial⟩, ⟨[_, _], rfl, rfl, den_row R1_1.1 rfl, trivial⟩, rfl, trivial⟩).mono fun e W' ⟨he, bel⟩ => ?_
  subst he
  exact ⟨_, rfl, _, _, _, [], _, [], hW', trodAll_mk1 (shut_bool Try.underlying4 _), (trodAll_cons_mk (Below.trod laidOut (by kernel_rfl) (of_decide_eq_true (by kernel_rfl)) k0 bel lt0) (trodAll_cons_mk (Below.trod laidOut (by kernel_rfl) (of_decide_eq_true (by kernel_rfl)) k1 bel lt1) (trodAll_cons_mk (Below.trod laidOut (by kernel_rfl) (of_decide_eq_true (by kernel_rfl)) k2 bel lt2) trodAll_mk0))), rfl, bel.frame _, fun h => by cases h⟩

/-- The statement. -/
theorem proved : Rows.SignalTimesSaid :=
  OpenClaim.holds_of_wide 5 Try.f5 rfl rfl rfl rfl rfl rfl rfl ⟨rfl, rfl, rfl, rfl, rfl⟩ rfl rfl rfl rfl rfl (by kernel_rfl) Try.func5 (by kernel_rfl)
    (of_decide_eq_true (by kernel_rfl)) (by unfold Func.isWrapper; first | (rw [if_pos (by decide +kernel)]; kernel_rfl) | (rw [if_neg (by decide +kernel)]; exact ⟨rfl, rfl⟩))
    (fun os started H enc _ => lifted os started H enc)
#print axioms proved
end Go.Proofs.Ythfliohfkhnpiaa.signalTimes
