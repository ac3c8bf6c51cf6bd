/- SyncLocks: for every wheel, motion, noise and time, under tolerated noise synchronization is right: from the first edge of the tooth 0 on, before which at least three edges were seen, all states are Locked with the true tooth. No conditions. -/
import Derived.Test.YthfliohfkhnpiaaT9
import Derived.Test.YthfliohfkhnpiaaOpn
namespace Go.Proofs.Ythfliohfkhnpiaa.syncLocks
open Go.ChangeShapes Go.WideShapes Go.ChangeAt Go.RowKit Go.Joins
set_option linter.unusedVariables false

theorem own : ownKnob Try.prog.godebug = none := by kernel_rfl
theorem laidOut : laidOutB Try.prog = true := by kernel_rfl

set_option maxRecDepth 100000 in
theorem lifted (os : Os) (started : os.Started) (H : Type) (enc : TypeId × Value → H) :
    ReturnsInHanded {} Try.checked os 4 .any (Rows.syncLocksSpec.pre6 enc Try.prog Try.f4 Rows.syncLocksRow.domain false) (Rows.syncLocksSpec.post enc Try.prog Try.f4 false true false false) := by
  refine returnsInHanded_of_change (C := Try.checked) own started (by kernel_rfl) Try.func4
    (ChangeSpec.witness6 (enc := enc) (C := Try.checked) false ⟨#[], #[.agg #[.int .i64 0, .int .i64 0], .agg #[.int .i64 0, .slice none 0 0], .agg #[.slice none 0 0, .slice none 0 0, .slice none 0 0], .int .i64 0], []⟩ 8 (by kernel_rfl) (by kernel_rfl) (by kernel_rfl) (by kernel_rfl)) ?_
  intro W base args ds gs before hval0 hW hcnd hsz
  have hval : ∀ (j : Nat) t v, Try.f4.params[j]? = some t → args[j]? = some v → Value.okWide Try.prog W .any base t v := hval0
  have hW' := hW
  obtain ⟨p, q, hA0, hV, rfl, hfz, hnd⟩ := hW
  have hA : DataW.TrodAll enc Try.prog W 0 (fun _ => true) true Try.f4.params.toList args.toList ds p := hA0
  rw [Try.params4] at hA hval
  obtain ⟨v0, vs0, d0, ds0, p0, q0, hargs, rfl, rfl, h0, r0⟩ := trodAll_cons hA
  obtain ⟨v1, vs1, d1, ds1, p1, q1, rfl, rfl, rfl, h1, r1⟩ := trodAll_cons r0
  obtain ⟨v2, vs2, d2, ds2, p2, q2, rfl, rfl, rfl, h2, r2⟩ := trodAll_cons r1
  obtain ⟨v3, vs3, d3, ds3, p3, q3, rfl, rfl, rfl, h3, r3⟩ := trodAll_cons r2
  obtain ⟨rfl, rfl, rfl⟩ := trodAll_nil r3
  obtain rfl : args = #[v0, v1, v2, v3] := by cases args; simp_all
  obtain ⟨rfl, rfl⟩ := trodVars_none hV
  have k0 := h0
  have lt0 : ∀ x ∈ p0, x.block < W.heap.size := by obtain ⟨m, hm⟩ := k0; exact DataW.trod_lt m _ _ _ hm
  have k1 := h1
  have lt1 : ∀ x ∈ p1, x.block < W.heap.size := by obtain ⟨m, hm⟩ := k1; exact DataW.trod_lt m _ _ _ hm
  have k2 := h2
  have lt2 : ∀ x ∈ p2, x.block < W.heap.size := by obtain ⟨m, hm⟩ := k2; exact DataW.trod_lt m _ _ _ hm
  have k3 := h3
  have lt3 : ∀ x ∈ p3, x.block < W.heap.size := by obtain ⟨m, hm⟩ := k3; exact DataW.trod_lt m _ _ _ hm
  obtain ⟨cs0, m0, rfl, sz0, fs0⟩ := open_fields Try.underlying23 (hval 0 23 v0 rfl rfl) h0
  obtain ⟨c0_0, c0_1, rfl⟩ := arr2 (sz0.trans (by kernel_rfl))
  obtain ⟨y0_0, t0_0⟩ := fs0 0 _ rfl
  obtain ⟨a0_0, e0_0, _, w0_0⟩ := DataW.trod_int Try.underlying3 t0_0
  change List.take (Try.prog.cellsOf 3) (List.drop 0 [c0_0, c0_1]) = _ at e0_0
  rw [show Try.prog.cellsOf 3 = 1 from by kernel_rfl] at e0_0
  simp only [List.drop_zero, List.take_succ_cons, List.take_zero, List.cons.injEq, and_true] at e0_0
  subst e0_0
  obtain ⟨y0_1, t0_1⟩ := fs0 1 _ rfl
  obtain ⟨a0_1, e0_1, _, w0_1⟩ := DataW.trod_int Try.underlying3 t0_1
  change List.take (Try.prog.cellsOf 3) (List.drop 1 [_, c0_1]) = _ at e0_1
  rw [show Try.prog.cellsOf 3 = 1 from by kernel_rfl] at e0_1
  simp only [List.drop_succ_cons, List.drop_zero, List.take_succ_cons, List.take_zero, List.cons.injEq, and_true] at e0_1
  subst e0_1
  obtain ⟨cs1, m1, rfl, sz1, fs1⟩ := open_fields Try.underlying26 (hval 1 26 v1 rfl rfl) h1
  obtain ⟨c1_0, c1_1, rfl⟩ := arr2 (sz1.trans (by kernel_rfl))
  obtain ⟨y1_0, t1_0⟩ := fs1 0 _ rfl
  obtain ⟨a1_0, e1_0, _, w1_0⟩ := DataW.trod_int Try.underlying3 t1_0
  change List.take (Try.prog.cellsOf 3) (List.drop 0 [c1_0, c1_1]) = _ at e1_0
  rw [show Try.prog.cellsOf 3 = 1 from by kernel_rfl] at e1_0
  simp only [List.drop_zero, List.take_succ_cons, List.take_zero, List.cons.injEq, and_true] at e1_0
  subst e1_0
  obtain ⟨y1_1, t1_1⟩ := fs1 1 _ rfl
  obtain ⟨z1_1, l1_1, e1_1, R1_1⟩ := recs_open_cs [.int .i64, .int .i64] Try.underlying24 Try.underlying93 (by kernel_rfl) (by kernel_rfl) (by decide) t1_1
  change List.take (Try.prog.cellsOf 24) (List.drop 1 [_, c1_1]) = _ at e1_1
  rw [show Try.prog.cellsOf 24 = 1 from by kernel_rfl] at e1_1
  simp only [List.drop_succ_cons, List.drop_zero, List.take_succ_cons, List.take_zero, List.cons.injEq, and_true] at e1_1
  have e1_1 := e1_1.symm
  subst e1_1
  obtain ⟨cs2, m2, rfl, sz2, fs2⟩ := open_fields Try.underlying29 (hval 2 29 v2 rfl rfl) h2
  obtain ⟨c2_0, c2_1, c2_2, rfl⟩ := arr3 (sz2.trans (by kernel_rfl))
  obtain ⟨y2_0, t2_0⟩ := fs2 0 _ rfl
  obtain ⟨z2_0, l2_0, e2_0, R2_0⟩ := ints_open_cs Try.underlying27 Try.underlying3 (by kernel_rfl) t2_0
  change List.take (Try.prog.cellsOf 27) (List.drop 0 [c2_0, c2_1, c2_2]) = _ at e2_0
  rw [show Try.prog.cellsOf 27 = 1 from by kernel_rfl] at e2_0
  simp only [List.drop_zero, List.take_succ_cons, List.take_zero, List.cons.injEq, and_true] at e2_0
  have e2_0 := e2_0.symm
  subst e2_0
  obtain ⟨y2_1, t2_1⟩ := fs2 1 _ rfl
  obtain ⟨z2_1, l2_1, e2_1, R2_1⟩ := ints_open_cs Try.underlying27 Try.underlying3 (by kernel_rfl) t2_1
  change List.take (Try.prog.cellsOf 27) (List.drop 1 [_, c2_1, c2_2]) = _ at e2_1
  rw [show Try.prog.cellsOf 27 = 1 from by kernel_rfl] at e2_1
  simp only [List.drop_succ_cons, List.drop_zero, List.take_succ_cons, List.take_zero, List.cons.injEq, and_true] at e2_1
  have e2_1 := e2_1.symm
  subst e2_1
  obtain ⟨y2_2, t2_2⟩ := fs2 2 _ rfl
  obtain ⟨z2_2, l2_2, e2_2, R2_2⟩ := ints_open_cs Try.underlying27 Try.underlying3 (by kernel_rfl) t2_2
  change List.take (Try.prog.cellsOf 27) (List.drop 2 [_, _, c2_2]) = _ at e2_2
  rw [show Try.prog.cellsOf 27 = 1 from by kernel_rfl] at e2_2
  simp only [List.drop_succ_cons, List.drop_zero, List.take_succ_cons, List.take_zero, List.cons.injEq, and_true] at e2_2
  have e2_2 := e2_2.symm
  subst e2_2
  obtain ⟨a3, rfl, _, _, w3⟩ := open_int Try.underlying3 (hval 3 3 v3 rfl rfl) h3
  clear hA0 hval0
  refine (walk_of locks_ok (args := [.agg [.int .i64 a0_0, .int .i64 a0_1], .agg [.int .i64 a1_0, .row 0], .agg [.row 1, .row 2, .row 3], .cel (.int .i64 a3)]) (rows := [.recs [.int .i64, .int .i64] l1_1, .ints .i64 l2_0, .ints .i64 l2_1, .ints .i64 l2_2]) (vs := [.agg #[.int .i64 a0_0, .int .i64 a0_1], .agg #[.int .i64 a1_0, z1_1], .agg #[z2_0, z2_1, z2_2], .int .i64 a3]) (ρ := [z1_1, z2_0, z2_1, z2_2]) (W := W) rfl ⟨w0_0, w0_1, w1_0, R1_1.2, R2_0.2, R2_1.2, R2_2.2, w3, lenB_ofR R1_1.1, lenB_of R2_0.1, lenB_of R2_1.1, lenB_of R2_2.1, trivial⟩ rfl (rowsAre_cons R1_1.1 (rowsAre_cons R2_0.1 (rowsAre_cons R2_1.1 (rowsAre_cons R2_2.1 (rowsAre0 W))))) ⟨⟨[_, _], rfl, rfl, rfl, trivial⟩, ⟨[_, _], rfl, rfl, den_row R1_1.1 rfl, trivial⟩, ⟨[_, _, _], rfl, den_row R2_0.1 rfl, den_row R2_1.1 rfl, den_row R2_2.1 rfl, trivial⟩, rfl, trivial⟩).mono fun e W' ⟨he, bel⟩ => ?_
  subst he
  exact ⟨_, rfl, _, _, _, [], _, [], hW', trodAll_mk1 (shut_bool Try.underlying4 _), (trodAll_cons_mk (Below.trod laidOut (by kernel_rfl) (of_decide_eq_true (by kernel_rfl)) k0 bel lt0) (trodAll_cons_mk (Below.trod laidOut (by kernel_rfl) (of_decide_eq_true (by kernel_rfl)) k1 bel lt1) (trodAll_cons_mk (Below.trod laidOut (by kernel_rfl) (of_decide_eq_true (by kernel_rfl)) k2 bel lt2) (trodAll_cons_mk (Below.trod laidOut (by kernel_rfl) (of_decide_eq_true (by kernel_rfl)) k3 bel lt3) trodAll_mk0)))), rfl, bel.frame _, fun h => by cases h⟩

/-- The statement. -/
theorem proved : Rows.SyncLocksSaid :=
  OpenClaim.holds_of_wide 4 Try.f4 rfl rfl rfl rfl rfl rfl rfl ⟨rfl, rfl, rfl, rfl, rfl⟩ rfl rfl rfl rfl rfl (by kernel_rfl) Try.func4 (by kernel_rfl)
    (of_decide_eq_true (by kernel_rfl)) (by unfold Func.isWrapper; first | (rw [if_pos (by decide +kernel)]; kernel_rfl) | (rw [if_neg (by decide +kernel)]; exact ⟨rfl, rfl⟩))
    (fun os started H enc _ => lifted os started H enc)
#print axioms proved
end Go.Proofs.Ythfliohfkhnpiaa.syncLocks
