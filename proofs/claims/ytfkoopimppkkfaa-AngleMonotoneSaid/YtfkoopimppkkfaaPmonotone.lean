/- AngleMonotone: for every clock and two distances of time, the angle never goes back between teeth, and is never beyond the next tooth, where it stays. No conditions. -/
import Derived.Test.YtfkoopimppkkfaaC6
import Derived.Test.YtfkoopimppkkfaaOpn
namespace Go.Proofs.Ytfkoopimppkkfaa.angleMonotone
open Go.ChangeShapes Go.WideShapes Go.ChangeAt Go.RowKit Go.Joins
set_option linter.unusedVariables false

theorem own : ownKnob Try.prog.godebug = none := by kernel_rfl
theorem laidOut : laidOutB Try.prog = true := by kernel_rfl

set_option maxRecDepth 100000 in
theorem lifted (os : Os) (started : os.Started) (H : Type) (enc : TypeId × Value → H) :
    ReturnsInHanded {} Try.checked os 6 .any (Rows.angleMonotoneSpec.pre6 enc Try.prog Try.f6 Rows.angleMonotoneRow.domain false) (Rows.angleMonotoneSpec.post enc Try.prog Try.f6 false true false false) := by
  refine returnsInHanded_of_change (C := Try.checked) own started (by kernel_rfl) Try.func6
    (ChangeSpec.witness6 (enc := enc) (C := Try.checked) false ⟨#[], #[.agg #[.bool false, .int .i64 0, .int .i64 0, .int .i64 0, .int .i64 0, .int .i64 0], .int .u32 0, .int .u32 0], []⟩ 8 (by kernel_rfl) (by kernel_rfl) (by kernel_rfl) (by kernel_rfl)) ?_
  intro W base args ds gs before hval0 hW hcnd hsz
  have hval : ∀ (j : Nat) t v, Try.f6.params[j]? = some t → args[j]? = some v → Value.okWide Try.prog W .any base t v := hval0
  have hW' := hW
  obtain ⟨p, q, hA0, hV, rfl, hfz, hnd⟩ := hW
  have hA : DataW.TrodAll enc Try.prog W 0 (fun _ => true) true Try.f6.params.toList args.toList ds p := hA0
  rw [Try.params6] at hA hval
  obtain ⟨v0, vs0, d0, ds0, p0, q0, hargs, rfl, rfl, h0, r0⟩ := trodAll_cons hA
  obtain ⟨v1, vs1, d1, ds1, p1, q1, rfl, rfl, rfl, h1, r1⟩ := trodAll_cons r0
  obtain ⟨v2, vs2, d2, ds2, p2, q2, rfl, rfl, rfl, h2, r2⟩ := trodAll_cons r1
  obtain ⟨rfl, rfl, rfl⟩ := trodAll_nil r2
  obtain rfl : args = #[v0, v1, v2] := by cases args; simp_all
  obtain ⟨rfl, rfl⟩ := trodVars_none hV
  have k0 := h0
  have lt0 : ∀ x ∈ p0, x.block < W.heap.size := by obtain ⟨m, hm⟩ := k0; exact DataW.trod_lt m _ _ _ hm
  have k1 := h1
  have lt1 : ∀ x ∈ p1, x.block < W.heap.size := by obtain ⟨m, hm⟩ := k1; exact DataW.trod_lt m _ _ _ hm
  have k2 := h2
  have lt2 : ∀ x ∈ p2, x.block < W.heap.size := by obtain ⟨m, hm⟩ := k2; exact DataW.trod_lt m _ _ _ hm
  obtain ⟨cs0, m0, rfl, sz0, fs0⟩ := open_fields Try.underlying23 (hval 0 23 v0 rfl rfl) h0
  obtain ⟨c0_0, c0_1, c0_2, c0_3, c0_4, c0_5, rfl⟩ := arr6 (sz0.trans (by kernel_rfl))
  obtain ⟨y0_0, t0_0⟩ := fs0 0 _ rfl
  obtain ⟨a0_0, e0_0, _⟩ := DataW.trod_bool Try.underlying4 t0_0
  change List.take (Try.prog.cellsOf 4) (List.drop 0 [c0_0, c0_1, c0_2, c0_3, c0_4, c0_5]) = _ at e0_0
  rw [show Try.prog.cellsOf 4 = 1 from by kernel_rfl] at e0_0
  simp only [List.drop_zero, List.take_succ_cons, List.take_zero, List.cons.injEq, and_true] at e0_0
  subst e0_0
  obtain ⟨y0_1, t0_1⟩ := fs0 1 _ rfl
  obtain ⟨a0_1, e0_1, _, w0_1⟩ := DataW.trod_int Try.underlying3 t0_1
  change List.take (Try.prog.cellsOf 3) (List.drop 1 [_, c0_1, c0_2, c0_3, c0_4, c0_5]) = _ at e0_1
  rw [show Try.prog.cellsOf 3 = 1 from by kernel_rfl] at e0_1
  simp only [List.drop_succ_cons, List.drop_zero, List.take_succ_cons, List.take_zero, List.cons.injEq, and_true] at e0_1
  subst e0_1
  obtain ⟨y0_2, t0_2⟩ := fs0 2 _ rfl
  obtain ⟨a0_2, e0_2, _, w0_2⟩ := DataW.trod_int Try.underlying3 t0_2
  change List.take (Try.prog.cellsOf 3) (List.drop 2 [_, _, c0_2, c0_3, c0_4, c0_5]) = _ at e0_2
  rw [show Try.prog.cellsOf 3 = 1 from by kernel_rfl] at e0_2
  simp only [List.drop_succ_cons, List.drop_zero, List.take_succ_cons, List.take_zero, List.cons.injEq, and_true] at e0_2
  subst e0_2
  obtain ⟨y0_3, t0_3⟩ := fs0 3 _ rfl
  obtain ⟨a0_3, e0_3, _, w0_3⟩ := DataW.trod_int Try.underlying3 t0_3
  change List.take (Try.prog.cellsOf 3) (List.drop 3 [_, _, _, c0_3, c0_4, c0_5]) = _ at e0_3
  rw [show Try.prog.cellsOf 3 = 1 from by kernel_rfl] at e0_3
  simp only [List.drop_succ_cons, List.drop_zero, List.take_succ_cons, List.take_zero, List.cons.injEq, and_true] at e0_3
  subst e0_3
  obtain ⟨y0_4, t0_4⟩ := fs0 4 _ rfl
  obtain ⟨a0_4, e0_4, _, w0_4⟩ := DataW.trod_int Try.underlying3 t0_4
  change List.take (Try.prog.cellsOf 3) (List.drop 4 [_, _, _, _, c0_4, c0_5]) = _ at e0_4
  rw [show Try.prog.cellsOf 3 = 1 from by kernel_rfl] at e0_4
  simp only [List.drop_succ_cons, List.drop_zero, List.take_succ_cons, List.take_zero, List.cons.injEq, and_true] at e0_4
  subst e0_4
  obtain ⟨y0_5, t0_5⟩ := fs0 5 _ rfl
  obtain ⟨a0_5, e0_5, _, w0_5⟩ := DataW.trod_int Try.underlying3 t0_5
  change List.take (Try.prog.cellsOf 3) (List.drop 5 [_, _, _, _, _, c0_5]) = _ at e0_5
  rw [show Try.prog.cellsOf 3 = 1 from by kernel_rfl] at e0_5
  simp only [List.drop_succ_cons, List.drop_zero, List.take_succ_cons, List.take_zero, List.cons.injEq, and_true] at e0_5
  subst e0_5
  obtain ⟨a1, rfl, _, _, w1⟩ := open_int Try.underlying42 (hval 1 42 v1 rfl rfl) h1
  obtain ⟨a2, rfl, _, _, w2⟩ := open_int Try.underlying42 (hval 2 42 v2 rfl rfl) h2
  clear hA0 hval0
  refine (walk_of monotone_ok (args := [.agg [.bool a0_0, .int .i64 a0_1, .int .i64 a0_2, .int .i64 a0_3, .int .i64 a0_4, .int .i64 a0_5], .cel (.int .u32 a1), .cel (.int .u32 a2)]) (rows := []) (vs := [.agg #[.bool a0_0, .int .i64 a0_1, .int .i64 a0_2, .int .i64 a0_3, .int .i64 a0_4, .int .i64 a0_5], .int .u32 a1, .int .u32 a2]) (ρ := []) (W := W) rfl ⟨w0_1, w0_2, w0_3, w0_4, w0_5, w1, w2, trivial⟩ rfl (rowsAre0 W) ⟨⟨[_, _, _, _, _, _], rfl, rfl, rfl, rfl, rfl, rfl, rfl, trivial⟩, rfl, rfl, trivial⟩).mono fun e W' ⟨he, bel⟩ => ?_
  subst he
  exact ⟨_, rfl, _, _, _, [], _, [], hW', trodAll_mk1 (shut_bool Try.underlying4 _), (trodAll_cons_mk (Below.trod laidOut (by kernel_rfl) (of_decide_eq_true (by kernel_rfl)) k0 bel lt0) (trodAll_cons_mk (Below.trod laidOut (by kernel_rfl) (of_decide_eq_true (by kernel_rfl)) k1 bel lt1) (trodAll_cons_mk (Below.trod laidOut (by kernel_rfl) (of_decide_eq_true (by kernel_rfl)) k2 bel lt2) trodAll_mk0))), rfl, bel.frame _, fun h => by cases h⟩

/-- The statement. -/
theorem proved : Rows.AngleMonotoneSaid :=
  OpenClaim.holds_of_wide 6 Try.f6 rfl rfl rfl rfl rfl rfl rfl ⟨rfl, rfl, rfl, rfl, rfl⟩ rfl rfl rfl rfl rfl (by kernel_rfl) Try.func6 (by kernel_rfl)
    (of_decide_eq_true (by kernel_rfl)) (by unfold Func.isWrapper; first | (rw [if_pos (by decide +kernel)]; kernel_rfl) | (rw [if_neg (by decide +kernel)]; exact ⟨rfl, rfl⟩))
    (fun os started H enc _ => lifted os started H enc)
#print axioms proved
end Go.Proofs.Ytfkoopimppkkfaa.angleMonotone
