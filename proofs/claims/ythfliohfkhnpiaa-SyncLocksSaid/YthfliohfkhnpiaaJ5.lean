/- The crank's edges, valid lists, periods. -/
import Derived.Test.YthfliohfkhnpiaaJ4
import Derived.Test.YthfliohfkhnpiaaFb
namespace Go.Proofs.Ythfliohfkhnpiaa
set_option linter.unusedVariables false
set_option linter.unusedSimpArgs false
open Go.RowKit

def crank_res (T : Int) (M : Int) (s : Int) (l : List (List Int)) (e : Int) : CRes := ⟨[fewB s l e], .tup [.cel (.row 1), .cel (.row 2), .cel (.int .i64 (crE (wValid T M) s l e))], [.ints .i64 (crT T M s l e), .ints .i64 (crP T M s l e)]⟩
def crank_go : List TV → List RowA → List (List CV) → Option CRes := fun args rows caps =>
  match args, rows, caps with
  | [.agg [.int .i64 T, .int .i64 M], .agg [.int .i64 s, .row 0], .cel (.int .i64 e)], [.recs [.int .i64, .int .i64] l], [] => some (crank_res T M s l e)
  | _, _, _ => none
def crank_e : Ent := ⟨39, [.recs [.int .i64, .int .i64] []], crank_go⟩
set_option maxRecDepth 100000 in
theorem crank_tree (T : Int) (M : Int) (s : Int) (l : List (List Int)) (e : Int) : ((cnd ((wValid T M) == (wValid T M))
  (cnd (fewB s l e)
    ((True ∧ (True ∧ ((crE (wValid T M) s l e) = (crE (wValid T M) s l e)))) ∧ (((crT T M s l e) = (crT T M s l e)) ∧ (((crP T M s l e) = (crP T M s l e)) ∧ True)))
    False)
  False)) = EXD Try.prog (conOf [wvalid_e, edgesC_e]) Try.f39 [.agg [.int .i64 T, .int .i64 M], .agg [.int .i64 s, .row 0], .cel (.int .i64 e)] [.recs [.int .i64, .int .i64] l] [] (crank_res T M s l e) := by kernel_rfl
theorem crank_holds (T : Int) (M : Int) (s : Int) (l : List (List Int)) (e : Int) (p0 : (fewB s l e) = true) : (cnd ((wValid T M) == (wValid T M))
  (cnd (fewB s l e)
    ((True ∧ (True ∧ ((crE (wValid T M) s l e) = (crE (wValid T M) s l e)))) ∧ (((crT T M s l e) = (crT T M s l e)) ∧ (((crP T M s l e) = (crP T M s l e)) ∧ True)))
    False)
  False) := by
  rw [p0]
  simp [cnd]
set_option maxHeartbeats 2000000 in
theorem crank_ok : SoundEnt Try.prog crank_e := by
  refine ent_of_ex (Γ := (conOf [wvalid_e, edgesC_e])) (conOf_sound (scons wvalid_ok (scons edgesC_ok snil))) (by kernel_rfl) Try.func39 (by kernel_rfl) (by kernel_rfl) (fun args rows caps res h ho => ?_)
  change crank_go args rows caps = some res at h
  unfold crank_go at h
  split at h
  · simp only [Option.some.injEq] at h
    subst h
    rename_i q0_ q1_ q2_ q4_ q3_
    obtain ⟨p0, _⟩ := ho
    exact EX.of (crank_tree q0_ q1_ q2_ q3_ q4_) (crank_holds q0_ q1_ q2_ q3_ q4_ p0)
  · cases h
def Crank_res (T : Int) (M : Int) (s : Int) (l : List (List Int)) (e : Int) : CRes := ⟨[fewB s l e], .tup [.cel (.row 1), .cel (.int .i64 (crE (wValid T M) s l e))], [.ints .i64 (crT T M s l e)]⟩
def Crank_go : List TV → List RowA → List (List CV) → Option CRes := fun args rows caps =>
  match args, rows, caps with
  | [.agg [.int .i64 T, .int .i64 M], .agg [.int .i64 s, .row 0], .cel (.int .i64 e)], [.recs [.int .i64, .int .i64] l], [] => some (Crank_res T M s l e)
  | _, _, _ => none
def Crank_e : Ent := ⟨15, [.recs [.int .i64, .int .i64] []], Crank_go⟩
set_option maxRecDepth 100000 in
theorem Crank_tree (T : Int) (M : Int) (s : Int) (l : List (List Int)) (e : Int) : ((cnd (fewB s l e)
  ((True ∧ ((crE (wValid T M) s l e) = (crE (wValid T M) s l e))) ∧ (((crT T M s l e) = (crT T M s l e)) ∧ True))
  False)) = EXD Try.prog (conOf [crank_e]) Try.f15 [.agg [.int .i64 T, .int .i64 M], .agg [.int .i64 s, .row 0], .cel (.int .i64 e)] [.recs [.int .i64, .int .i64] l] [] (Crank_res T M s l e) := by kernel_rfl
theorem Crank_holds (T : Int) (M : Int) (s : Int) (l : List (List Int)) (e : Int) (p0 : (fewB s l e) = true) : (cnd (fewB s l e)
  ((True ∧ ((crE (wValid T M) s l e) = (crE (wValid T M) s l e))) ∧ (((crT T M s l e) = (crT T M s l e)) ∧ True))
  False) := by
  rw [p0]
  exact ⟨⟨trivial, rfl⟩, rfl, trivial⟩
set_option maxHeartbeats 2000000 in
theorem Crank_ok : SoundEnt Try.prog Crank_e := by
  refine ent_of_ex (Γ := (conOf [crank_e])) (conOf_sound (scons crank_ok snil)) (by kernel_rfl) Try.func15 (by kernel_rfl) (by kernel_rfl) (fun args rows caps res h ho => ?_)
  change Crank_go args rows caps = some res at h
  unfold Crank_go at h
  split at h
  · simp only [Option.some.injEq] at h
    subst h
    rename_i q0_ q1_ q2_ q4_ q3_
    obtain ⟨p0, _⟩ := ho
    exact EX.of (Crank_tree q0_ q1_ q2_ q3_ q4_) (Crank_holds q0_ q1_ q2_ q3_ q4_ p0)
  · cases h
def few_res (s : Int) (l : List (List Int)) (e : Int) : CRes := ⟨[decide ((l.length : Int) ≤ 9223372036854775807)], .one (.cel (.bool (decide ((l.length : Int) ≤ 60) && fewB s l e))), []⟩
def few_go : List TV → List RowA → List (List CV) → Option CRes := fun args rows caps =>
  match args, rows, caps with
  | [.agg [.int .i64 s, .row 0], .cel (.int .i64 e)], [.recs [.int .i64, .int .i64] l], [] => some (few_res s l e)
  | _, _, _ => none
def few_e : Ent := ⟨23, [.recs [.int .i64, .int .i64] []], few_go⟩
set_option maxRecDepth 100000 in
theorem few_tree (s : Int) (l : List (List Int)) (e : Int) : ((cnd (decide ((60 : Int) < (((List.length l) : Nat) : Int)))
  (Bool.false = ((decide ((((List.length l) : Nat) : Int) ≤ (60 : Int))) && (fewB s l e)))
  (((!(decide ((mErr s l e) = (0 : Int)))) || (decide ((Go.IntKind.wrap Go.IntKind.i64 ((posOf s l e) - s)) ≤ (92160 : Int)))) = ((decide ((((List.length l) : Nat) : Int) ≤ (60 : Int))) && (fewB s l e))))) = EXD Try.prog (conOf [position_e]) Try.f23 [.agg [.int .i64 s, .row 0], .cel (.int .i64 e)] [.recs [.int .i64, .int .i64] l] [] (few_res s l e) := by kernel_rfl
theorem few_holds (s : Int) (l : List (List Int)) (e : Int) (p0 : (decide ((l.length : Int) ≤ 9223372036854775807)) = true) : (cnd (decide ((60 : Int) < (((List.length l) : Nat) : Int)))
  (Bool.false = ((decide ((((List.length l) : Nat) : Int) ≤ (60 : Int))) && (fewB s l e)))
  (((!(decide ((mErr s l e) = (0 : Int)))) || (decide ((Go.IntKind.wrap Go.IntKind.i64 ((posOf s l e) - s)) ≤ (92160 : Int)))) = ((decide ((((List.length l) : Nat) : Int) ≤ (60 : Int))) && (fewB s l e)))) := by
  by_cases h : (60 : Int) < l.length
  · have h2 : decide ((l.length : Int) ≤ 60) = false := decide_eq_false (by omega)
    rw [decide_eq_true h, h2]
    rfl
  · have h2 : decide ((l.length : Int) ≤ 60) = true := decide_eq_true (by omega)
    rw [decide_eq_false h, h2, Bool.true_and]
    show _ = fewB s l e
    unfold fewB
    by_cases hm : mErr s l e = 0
    · obtain ⟨h3, h4⟩ := mErr_zero.1 hm
      have hs := (mV_iff.1 h3).1
      have hw := way_bd l 0 e (mV_iff.1 h3).2.2 h4.1
      have hp : posOf s l e = s + way e l / 65536 := by unfold posOf; rw [if_pos hm]
      rw [w64 (n := posOf s l e - s) (by omega) (by omega)]
    · rw [decide_eq_false hm]
      rfl
set_option maxHeartbeats 2000000 in
theorem few_ok : SoundEnt Try.prog few_e := by
  refine ent_of_ex (Γ := (conOf [position_e])) (conOf_sound (scons position_ok snil)) (by kernel_rfl) Try.func23 (by kernel_rfl) (by kernel_rfl) (fun args rows caps res h ho => ?_)
  change few_go args rows caps = some res at h
  unfold few_go at h
  split at h
  · simp only [Option.some.injEq] at h
    subst h
    rename_i q0_ q2_ q1_
    obtain ⟨p0, _⟩ := ho
    exact EX.of (few_tree q0_ q1_ q2_) (few_holds q0_ q1_ q2_ p0)
  · cases h
def even_res : CRes := ⟨[], .one (.agg [.int .i64 (0), .row 0]), [.recs [.int .i64, .int .i64] ([[200000, 23040]])]⟩
def even_go : List TV → List RowA → List (List CV) → Option CRes := fun args rows caps =>
  match args, rows, caps with
  | [], [], [] => some (even_res )
  | _, _, _ => none
def even_e : Ent := ⟨65, [], even_go⟩
set_option maxRecDepth 100000 in
theorem even_tree  : (((((0 : Int) = (0 : Int)) ∧ True) ∧ (([[(200000 : Int), (23040 : Int)]] = [[(200000 : Int), (23040 : Int)]]) ∧ True))) = EXD Try.prog (conOf []) Try.f65 [] [] [] (even_res ) := by kernel_rfl
theorem even_holds   : ((((0 : Int) = (0 : Int)) ∧ True) ∧ (([[(200000 : Int), (23040 : Int)]] = [[(200000 : Int), (23040 : Int)]]) ∧ True)) := by
  exact ⟨⟨rfl, trivial⟩, rfl, trivial⟩
set_option maxHeartbeats 2000000 in
theorem even_ok : SoundEnt Try.prog even_e := by
  refine ent_of_ex (Γ := (conOf [])) (conOf_sound snil) (by kernel_rfl) Try.func65 (by kernel_rfl) (by kernel_rfl) (fun args rows caps res h ho => ?_)
  change even_go args rows caps = some res at h
  unfold even_go at h
  split at h
  · simp only [Option.some.injEq] at h
    subst h
    skip
    skip
    exact EX.of (even_tree ) (even_holds )
  · cases h
def awake_res : CRes := ⟨[], .one (.cel (.bool (true))), []⟩
def awake_go : List TV → List RowA → List (List CV) → Option CRes := fun args rows caps =>
  match args, rows, caps with
  | [], [], [] => some (awake_res )
  | _, _, _ => none
def awake_e : Ent := ⟨22, [], awake_go⟩
set_option maxRecDepth 100000 in
theorem awake_tree  : ((Bool.true = Bool.true)) = EXD Try.prog (conOf [Crank_e, even_e]) Try.f22 [] [] [] (awake_res ) := by kernel_rfl
theorem awake_holds   : (Bool.true = Bool.true) := by
  rfl
set_option maxHeartbeats 2000000 in
theorem awake_ok : SoundEnt Try.prog awake_e := by
  refine ent_of_ex (Γ := (conOf [Crank_e, even_e])) (conOf_sound (scons Crank_ok (scons even_ok snil))) (by kernel_rfl) Try.func22 (by kernel_rfl) (by kernel_rfl) (fun args rows caps res h ho => ?_)
  change awake_go args rows caps = some res at h
  unfold awake_go at h
  split at h
  · simp only [Option.some.injEq] at h
    subst h
    skip
    skip
    exact EX.of (awake_tree ) (awake_holds )
  · cases h
end Go.Proofs.Ythfliohfkhnpiaa

