/- SignalSets: for every list of edges and every noise, a list without noise stays as it is, without jitter the result has exactly the edges that are not left out, and the spurious ones, and jitter moves edges by its elements in turn. No conditions. -/
import Derived.Test.YthfliohfkhnpiaaJk
import Derived.Test.YthfliohfkhnpiaaOpn
namespace Go.Proofs.Ythfliohfkhnpiaa.signalSets
open Go.ChangeShapes Go.WideShapes Go.ChangeAt Go.RowKit Go.Joins
set_option linter.unusedVariables false

theorem own : ownKnob Try.prog.godebug = none := by kernel_rfl
theorem laidOut : laidOutB Try.prog = true := by kernel_rfl

set_option maxRecDepth 100000 in
theorem lifted (os : Os) (started : os.Started) (H : Type) (enc : TypeId × Value → H) :
    ReturnsInHanded {} Try.checked os 11 .any (Rows.signalSetsSpec.pre6 enc Try.prog Try.f11 Rows.signalSetsRow.domain false) (Rows.signalSetsSpec.post enc Try.prog Try.f11 false true false false) := by
  refine returnsInHanded_of_change (C := Try.checked) own started (by kernel_rfl) Try.func11
    (ChangeSpec.witness6 (enc := enc) (C := Try.checked) false ⟨#[], #[.slice none 0 0, .agg #[.slice none 0 0, .slice none 0 0, .slice none 0 0]], []⟩ 8 (by kernel_rfl) (by kernel_rfl) (by kernel_rfl) (by kernel_rfl)) ?_
  intro W base args ds gs before hval0 hW hcnd hsz
  have hval : ∀ (j : Nat) t v, Try.f11.params[j]? = some t → args[j]? = some v → Value.okWide Try.prog W .any base t v := hval0
  have hW' := hW
  obtain ⟨p, q, hA0, hV, rfl, hfz, hnd⟩ := hW
  have hA : DataW.TrodAll enc Try.prog W 0 (fun _ => true) true Try.f11.params.toList args.toList ds p := hA0
  rw [Try.params11] at hA hval
  obtain ⟨v0, vs0, d0, ds0, p0, q0, hargs, rfl, rfl, h0, r0⟩ := trodAll_cons hA
  obtain ⟨v1, vs1, d1, ds1, p1, q1, rfl, rfl, rfl, h1, r1⟩ := trodAll_cons r0
  obtain ⟨rfl, rfl, rfl⟩ := trodAll_nil r1
  obtain rfl : args = #[v0, v1] := by cases args; simp_all
  obtain ⟨rfl, rfl⟩ := trodVars_none hV
  have k0 := h0
  have lt0 : ∀ x ∈ p0, x.block < W.heap.size := by obtain ⟨m, hm⟩ := k0; exact DataW.trod_lt m _ _ _ hm
  have k1 := h1
  have lt1 : ∀ x ∈ p1, x.block < W.heap.size := by obtain ⟨m, hm⟩ := k1; exact DataW.trod_lt m _ _ _ hm
  obtain ⟨l0, R0⟩ := ints_open Try.underlying27 Try.underlying3 (by kernel_rfl) (okWide_slice Try.underlying27 (hval 0 27 v0 rfl rfl)) h0
  obtain ⟨cs1, m1, rfl, sz1, fs1⟩ := open_fields Try.underlying29 (hval 1 29 v1 rfl rfl) h1
  obtain ⟨c1_0, c1_1, c1_2, rfl⟩ := arr3 (sz1.trans (by kernel_rfl))
  obtain ⟨y1_0, t1_0⟩ := fs1 0 _ rfl
  obtain ⟨z1_0, l1_0, e1_0, R1_0⟩ := ints_open_cs Try.underlying27 Try.underlying3 (by kernel_rfl) t1_0
  change List.take (Try.prog.cellsOf 27) (List.drop 0 [c1_0, c1_1, c1_2]) = _ at e1_0
  rw [show Try.prog.cellsOf 27 = 1 from by kernel_rfl] at e1_0
  simp only [List.drop_zero, List.take_succ_cons, List.take_zero, List.cons.injEq, and_true] at e1_0
  have e1_0 := e1_0.symm
  subst e1_0
  obtain ⟨y1_1, t1_1⟩ := fs1 1 _ rfl
  obtain ⟨z1_1, l1_1, e1_1, R1_1⟩ := ints_open_cs Try.underlying27 Try.underlying3 (by kernel_rfl) t1_1
  change List.take (Try.prog.cellsOf 27) (List.drop 1 [_, c1_1, c1_2]) = _ at e1_1
  rw [show Try.prog.cellsOf 27 = 1 from by kernel_rfl] at e1_1
  simp only [List.drop_succ_cons, List.drop_zero, List.take_succ_cons, List.take_zero, List.cons.injEq, and_true] at e1_1
  have e1_1 := e1_1.symm
  subst e1_1
  obtain ⟨y1_2, t1_2⟩ := fs1 2 _ rfl
  obtain ⟨z1_2, l1_2, e1_2, R1_2⟩ := ints_open_cs Try.underlying27 Try.underlying3 (by kernel_rfl) t1_2
  change List.take (Try.prog.cellsOf 27) (List.drop 2 [_, _, c1_2]) = _ at e1_2
  rw [show Try.prog.cellsOf 27 = 1 from by kernel_rfl] at e1_2
  simp only [List.drop_succ_cons, List.drop_zero, List.take_succ_cons, List.take_zero, List.cons.injEq, and_true] at e1_2
  have e1_2 := e1_2.symm
  subst e1_2
  clear hA0 hval0
  refine (walk_of sets_ok (args := [.cel (.row 0), .agg [.row 1, .row 2, .row 3]]) (rows := [.ints .i64 l0, .ints .i64 l1_0, .ints .i64 l1_1, .ints .i64 l1_2]) (vs := [v0, .agg #[z1_0, z1_1, z1_2]]) (ρ := [v0, z1_0, z1_1, z1_2]) (W := W) rfl ⟨R0.2, R1_0.2, R1_1.2, R1_2.2, lenB_of R0.1, lenB_of R1_0.1, lenB_of R1_1.1, lenB_of R1_2.1, trivial⟩ rfl (rowsAre_cons R0.1 (rowsAre_cons R1_0.1 (rowsAre_cons R1_1.1 (rowsAre_cons R1_2.1 (rowsAre0 W))))) ⟨den_row R0.1 rfl, ⟨[_, _, _], rfl, den_row R1_0.1 rfl, den_row R1_1.1 rfl, den_row R1_2.1 rfl, trivial⟩, trivial⟩).mono fun e W' ⟨he, bel⟩ => ?_
  subst he
  exact ⟨_, rfl, _, _, _, [], _, [], hW', trodAll_mk1 (shut_bool Try.underlying4 _), (trodAll_cons_mk (Below.trod laidOut (by kernel_rfl) (of_decide_eq_true (by kernel_rfl)) k0 bel lt0) (trodAll_cons_mk (Below.trod laidOut (by kernel_rfl) (of_decide_eq_true (by kernel_rfl)) k1 bel lt1) trodAll_mk0)), rfl, bel.frame _, fun h => by cases h⟩

/-- The statement. -/
theorem proved : Rows.SignalSetsSaid :=
  OpenClaim.holds_of_wide 11 Try.f11 rfl rfl rfl rfl rfl rfl rfl ⟨rfl, rfl, rfl, rfl, rfl⟩ rfl rfl rfl rfl rfl (by kernel_rfl) Try.func11 (by kernel_rfl)
    (of_decide_eq_true (by kernel_rfl)) (by unfold Func.isWrapper; first | (rw [if_pos (by decide +kernel)]; kernel_rfl) | (rw [if_neg (by decide +kernel)]; exact ⟨rfl, rfl⟩))
    (fun os started H enc _ => lifted os started H enc)
#print axioms proved
end Go.Proofs.Ythfliohfkhnpiaa.signalSets
