/- Wheels: the edges between two positions. -/
import Derived.Test.YthfliohfkhnpiaaJ2
import Derived.Test.YthfliohfkhnpiaaAm
namespace Go.Proofs.Ythfliohfkhnpiaa
set_option linter.unusedVariables false
set_option linter.unusedSimpArgs false
open Go.RowKit

theorem mul_bd {a b A B : Int} (h0 : 0 ≤ a) (h1 : a ≤ A) (h2 : 0 ≤ b) (h3 : b ≤ B) : 0 ≤ a * b ∧ a * b ≤ A * B := ⟨Int.mul_nonneg h0 h2, Int.mul_le_mul h1 h3 h2 (by omega)⟩
def isT (t : Int) : Bool := decide (0 ≤ t) && decide (t ≤ 1099511627776)
theorem isT_iff {t : Int} : isT t = true ↔ 0 ≤ t ∧ t ≤ 1099511627776 := by simp [isT]
def wValid (T M : Int) : Bool := (decide (M = 1) || decide (M = 2)) && decide (12 ≤ T) && decide (T ≤ 120) && decide (8 * M ≤ T) && decide (23040 % T = 0)
theorem wValid_iff {T M : Int} : wValid T M = true ↔ (M = 1 ∨ M = 2) ∧ 12 ≤ T ∧ T ≤ 120 ∧ 8 * M ≤ T ∧ 23040 % T = 0 := by simp [wValid, and_assoc]
def spc (T M : Int) : Int := if wValid T M then 23040 / T else 0
def tth (T M : Int) : Int := if wValid T M then T - M else 0
theorem spc_bd {T M : Int} (h : wValid T M = true) : 192 ≤ spc T M ∧ spc T M ≤ 1920 ∧ spc T M * T = 23040 ∧ spc T M = 23040 / T := by
  obtain ⟨_, h1, h2, _, h3⟩ := wValid_iff.1 h
  unfold spc
  rw [if_pos h]
  have h4 : 23040 / T * T = 23040 := Int.ediv_mul_cancel (Int.dvd_of_emod_eq_zero h3)
  refine ⟨?_, ?_, h4, rfl⟩
  · refine Int.le_ediv_of_mul_le (by omega) (by omega)
  · refine Int.ediv_le_of_le_mul (by omega) (by omega)
def wvalid_res (T : Int) (M : Int) : CRes := ⟨[], .one (.cel (.bool (wValid T M))), []⟩
def wvalid_go : List TV → List RowA → List (List CV) → Option CRes := fun args rows caps =>
  match args, rows, caps with
  | [.agg [.int .i64 T, .int .i64 M]], [], [] => some (wvalid_res T M)
  | _, _, _ => none
def wvalid_e : Ent := ⟨58, [], wvalid_go⟩
set_option maxRecDepth 100000 in
theorem wvalid_tree (T : Int) (M : Int) : ((cnd ((!((((((decide (M = (1 : Int))) || (decide (M = (2 : Int)))) && (decide ((12 : Int) ≤ T))) && (decide (T ≤ (120 : Int)))) && (decide ((Go.IntKind.wrap Go.IntKind.i64 ((8 : Int) * M)) ≤ T))) == Bool.true)) || (decide (T ≠ (0 : Int))))
  (((((((decide (M = (1 : Int))) || (decide (M = (2 : Int)))) && (decide ((12 : Int) ≤ T))) && (decide (T ≤ (120 : Int)))) && (decide ((Go.IntKind.wrap Go.IntKind.i64 ((8 : Int) * M)) ≤ T))) && (decide ((Int.tmod (23040 : Int) T) = (0 : Int)))) = (wValid T M))
  False)) = EXD Try.prog (conOf []) Try.f58 [.agg [.int .i64 T, .int .i64 M]] [] [] (wvalid_res T M) := by kernel_rfl
theorem wvalid_holds (T : Int) (M : Int)  : (cnd ((!((((((decide (M = (1 : Int))) || (decide (M = (2 : Int)))) && (decide ((12 : Int) ≤ T))) && (decide (T ≤ (120 : Int)))) && (decide ((Go.IntKind.wrap Go.IntKind.i64 ((8 : Int) * M)) ≤ T))) == Bool.true)) || (decide (T ≠ (0 : Int))))
  (((((((decide (M = (1 : Int))) || (decide (M = (2 : Int)))) && (decide ((12 : Int) ≤ T))) && (decide (T ≤ (120 : Int)))) && (decide ((Go.IntKind.wrap Go.IntKind.i64 ((8 : Int) * M)) ≤ T))) && (decide ((Int.tmod (23040 : Int) T) = (0 : Int)))) = (wValid T M))
  False) := by
  by_cases hM : M = 1 ∨ M = 2
  · rw [w64 (n := 8 * M) (by omega) (by omega)]
    by_cases hT : 12 ≤ T
    · have e : Int.tmod 23040 T = 23040 % T := tmod_pos (by decide)
      have h0 : decide (T ≠ 0) = true := by simp; omega
      rw [e, h0, Bool.or_true]
      simp only [cnd, wValid]
    · have h0 : decide (12 ≤ T) = false := by simpa using hT
      rw [h0]
      simp [cnd, wValid, h0]
  · have h0 : (decide (M = 1) || decide (M = 2)) = false := by simp; omega
    rw [h0]
    simp [cnd, wValid, h0]
set_option maxHeartbeats 2000000 in
theorem wvalid_ok : SoundEnt Try.prog wvalid_e := by
  refine ent_of_ex (Γ := (conOf [])) (conOf_sound snil) (by kernel_rfl) Try.func58 (by kernel_rfl) (by kernel_rfl) (fun args rows caps res h ho => ?_)
  change wvalid_go args rows caps = some res at h
  unfold wvalid_go at h
  split at h
  · simp only [Option.some.injEq] at h
    subst h
    rename_i q0_ q1_
    skip
    exact EX.of (wvalid_tree q0_ q1_) (wvalid_holds q0_ q1_)
  · cases h
def wspace_res (T : Int) (M : Int) : CRes := ⟨[], .one (.cel (.int .i64 (spc T M))), []⟩
def wspace_go : List TV → List RowA → List (List CV) → Option CRes := fun args rows caps =>
  match args, rows, caps with
  | [.agg [.int .i64 T, .int .i64 M]], [], [] => some (wspace_res T M)
  | _, _, _ => none
def wspace_e : Ent := ⟨35, [], wspace_go⟩
set_option maxRecDepth 100000 in
theorem wspace_tree (T : Int) (M : Int) : ((cnd (!(wValid T M))
  ((0 : Int) = (spc T M))
  (cnd (decide (T ≠ (0 : Int)))
    ((Go.IntKind.wrap Go.IntKind.i64 (Int.tdiv (23040 : Int) T)) = (spc T M))
    False))) = EXD Try.prog (conOf [wvalid_e]) Try.f35 [.agg [.int .i64 T, .int .i64 M]] [] [] (wspace_res T M) := by kernel_rfl
theorem wspace_holds (T : Int) (M : Int)  : (cnd (!(wValid T M))
  ((0 : Int) = (spc T M))
  (cnd (decide (T ≠ (0 : Int)))
    ((Go.IntKind.wrap Go.IntKind.i64 (Int.tdiv (23040 : Int) T)) = (spc T M))
    False)) := by
  unfold spc
  by_cases h : wValid T M = true
  · obtain ⟨b0, b1, b2, b3⟩ := spc_bd h
    have hh := wValid_iff.1 h
    have h0 : decide (T ≠ 0) = true := by simp; omega
    have e : Int.tdiv 23040 T = 23040 / T := tdiv_pos (by decide)
    simp only [h, Bool.not_true, cnd, h0, e, if_true]
    rw [← b3, w64 (by omega) (by omega)]
  · have h : wValid T M = false := by simpa using h
    simp [h, cnd]
set_option maxHeartbeats 2000000 in
theorem wspace_ok : SoundEnt Try.prog wspace_e := by
  refine ent_of_ex (Γ := (conOf [wvalid_e])) (conOf_sound (scons wvalid_ok snil)) (by kernel_rfl) Try.func35 (by kernel_rfl) (by kernel_rfl) (fun args rows caps res h ho => ?_)
  change wspace_go args rows caps = some res at h
  unfold wspace_go at h
  split at h
  · simp only [Option.some.injEq] at h
    subst h
    rename_i q0_ q1_
    skip
    exact EX.of (wspace_tree q0_ q1_) (wspace_holds q0_ q1_)
  · cases h
def wteeth_res (T : Int) (M : Int) : CRes := ⟨[], .one (.cel (.int .i64 (tth T M))), []⟩
def wteeth_go : List TV → List RowA → List (List CV) → Option CRes := fun args rows caps =>
  match args, rows, caps with
  | [.agg [.int .i64 T, .int .i64 M]], [], [] => some (wteeth_res T M)
  | _, _, _ => none
def wteeth_e : Ent := ⟨106, [], wteeth_go⟩
set_option maxRecDepth 100000 in
theorem wteeth_tree (T : Int) (M : Int) : ((cnd (!(wValid T M))
  ((0 : Int) = (tth T M))
  ((Go.IntKind.wrap Go.IntKind.i64 (T - M)) = (tth T M)))) = EXD Try.prog (conOf [wvalid_e]) Try.f106 [.agg [.int .i64 T, .int .i64 M]] [] [] (wteeth_res T M) := by kernel_rfl
theorem wteeth_holds (T : Int) (M : Int)  : (cnd (!(wValid T M))
  ((0 : Int) = (tth T M))
  ((Go.IntKind.wrap Go.IntKind.i64 (T - M)) = (tth T M))) := by
  unfold tth
  by_cases h : wValid T M = true
  · have hh := wValid_iff.1 h
    simp only [h, Bool.not_true, cnd, if_true]
    rw [w64 (by omega) (by omega)]
  · have h : wValid T M = false := by simpa using h
    simp [h, cnd]
set_option maxHeartbeats 2000000 in
theorem wteeth_ok : SoundEnt Try.prog wteeth_e := by
  refine ent_of_ex (Γ := (conOf [wvalid_e])) (conOf_sound (scons wvalid_ok snil)) (by kernel_rfl) Try.func106 (by kernel_rfl) (by kernel_rfl) (fun args rows caps res h ho => ?_)
  change wteeth_go args rows caps = some res at h
  unfold wteeth_go at h
  split at h
  · simp only [Option.some.injEq] at h
    subst h
    rename_i q0_ q1_
    skip
    exact EX.of (wteeth_tree q0_ q1_) (wteeth_holds q0_ q1_)
  · cases h
def nxT (T M p : Int) : Int := if tth T M ≤ p % 23040 / spc T M + 1 then 0 else p % 23040 / spc T M + 1
def nxA (T M p : Int) : Int := if tth T M ≤ p % 23040 / spc T M + 1 then p - p % 23040 + 23040 else p - p % 23040 + (p % 23040 / spc T M + 1) * spc T M
def wnext_res (T : Int) (M : Int) (p : Int) : CRes := ⟨[wValid T M, isT p], .tup [.cel (.int .i64 (nxA T M p)), .cel (.int .i64 (nxT T M p))], []⟩
def wnext_go : List TV → List RowA → List (List CV) → Option CRes := fun args rows caps =>
  match args, rows, caps with
  | [.agg [.int .i64 T, .int .i64 M], .cel (.int .i64 p)], [], [] => some (wnext_res T M p)
  | _, _, _ => none
def wnext_e : Ent := ⟨64, [], wnext_go⟩
set_option maxRecDepth 100000 in
theorem wnext_tree (T : Int) (M : Int) (p : Int) : ((cnd (in64 p)
  (cnd (decide ((spc T M) ≠ (0 : Int)))
    (cnd (decide ((tth T M) ≤ (Go.IntKind.wrap Go.IntKind.i64 ((Go.IntKind.wrap Go.IntKind.i64 (Int.tdiv (Go.IntKind.wrap Go.IntKind.i64 (p - (Go.IntKind.wrap Go.IntKind.i64 (p - (p % (23040 : Int)))))) (spc T M))) + (1 : Int)))))
      (((Go.IntKind.wrap Go.IntKind.i64 ((Go.IntKind.wrap Go.IntKind.i64 (p - (p % (23040 : Int)))) + (23040 : Int))) = (nxA T M p)) ∧ ((0 : Int) = (nxT T M p)))
      (((Go.IntKind.wrap Go.IntKind.i64 ((Go.IntKind.wrap Go.IntKind.i64 (p - (p % (23040 : Int)))) + (Go.IntKind.wrap Go.IntKind.i64 ((Go.IntKind.wrap Go.IntKind.i64 ((Go.IntKind.wrap Go.IntKind.i64 (Int.tdiv (Go.IntKind.wrap Go.IntKind.i64 (p - (Go.IntKind.wrap Go.IntKind.i64 (p - (p % (23040 : Int)))))) (spc T M))) + (1 : Int))) * (spc T M))))) = (nxA T M p)) ∧ ((Go.IntKind.wrap Go.IntKind.i64 ((Go.IntKind.wrap Go.IntKind.i64 (Int.tdiv (Go.IntKind.wrap Go.IntKind.i64 (p - (Go.IntKind.wrap Go.IntKind.i64 (p - (p % (23040 : Int)))))) (spc T M))) + (1 : Int))) = (nxT T M p))))
    False)
  False)) = EXD Try.prog (conOf [mod_e, wspace_e, wteeth_e]) Try.f64 [.agg [.int .i64 T, .int .i64 M], .cel (.int .i64 p)] [] [] (wnext_res T M p) := by kernel_rfl
theorem wnext_holds (T : Int) (M : Int) (p : Int) (p0 : (wValid T M) = true) (p1 : (isT p) = true) : (cnd (in64 p)
  (cnd (decide ((spc T M) ≠ (0 : Int)))
    (cnd (decide ((tth T M) ≤ (Go.IntKind.wrap Go.IntKind.i64 ((Go.IntKind.wrap Go.IntKind.i64 (Int.tdiv (Go.IntKind.wrap Go.IntKind.i64 (p - (Go.IntKind.wrap Go.IntKind.i64 (p - (p % (23040 : Int)))))) (spc T M))) + (1 : Int)))))
      (((Go.IntKind.wrap Go.IntKind.i64 ((Go.IntKind.wrap Go.IntKind.i64 (p - (p % (23040 : Int)))) + (23040 : Int))) = (nxA T M p)) ∧ ((0 : Int) = (nxT T M p)))
      (((Go.IntKind.wrap Go.IntKind.i64 ((Go.IntKind.wrap Go.IntKind.i64 (p - (p % (23040 : Int)))) + (Go.IntKind.wrap Go.IntKind.i64 ((Go.IntKind.wrap Go.IntKind.i64 ((Go.IntKind.wrap Go.IntKind.i64 (Int.tdiv (Go.IntKind.wrap Go.IntKind.i64 (p - (Go.IntKind.wrap Go.IntKind.i64 (p - (p % (23040 : Int)))))) (spc T M))) + (1 : Int))) * (spc T M))))) = (nxA T M p)) ∧ ((Go.IntKind.wrap Go.IntKind.i64 ((Go.IntKind.wrap Go.IntKind.i64 (Int.tdiv (Go.IntKind.wrap Go.IntKind.i64 (p - (Go.IntKind.wrap Go.IntKind.i64 (p - (p % (23040 : Int)))))) (spc T M))) + (1 : Int))) = (nxT T M p))))
    False)
  False) := by
  obtain ⟨b0, b1, b2, b3⟩ := spc_bd p0
  have hh := wValid_iff.1 p0
  have hm : tth T M = T - M := by unfold tth; rw [if_pos p0]
  have hp := isT_iff.1 p1
  have hi : in64 p = true := in64_iff.2 (by omega)
  have hs : decide (spc T M ≠ 0) = true := by simp; omega
  have e1 : p - (p - p % 23040) = p % 23040 := by omega
  rw [w64 (n := p - p % 23040) (by omega) (by omega), e1, w64 (n := p % 23040) (by omega) (by omega), show Int.tdiv (p % 23040) (spc T M) = p % 23040 / spc T M from tdiv_pos (by omega)]
  have hq := quo_pos (x := p % 23040) (y := spc T M) (by omega) (by omega)
  rw [w64 (n := p % 23040 / spc T M) (by omega) (by omega), w64 (n := p % 23040 / spc T M + 1) (by omega) (by omega)]
  simp only [hi, hs, cnd]
  by_cases hc : tth T M ≤ p % 23040 / spc T M + 1
  · have j : decide (tth T M ≤ p % 23040 / spc T M + 1) = true := by simpa using hc
    rw [j, w64 (n := p - p % 23040 + 23040) (by omega) (by omega)]
    unfold nxA nxT
    rw [if_pos hc, if_pos hc]
    exact ⟨rfl, rfl⟩
  · have j : decide (tth T M ≤ p % 23040 / spc T M + 1) = false := by simpa using hc
    have hb := mul_bd (a := p % 23040 / spc T M + 1) (b := spc T M) (A := 120) (B := 1920) (by omega) (by omega) (by omega) b1
    rw [j, w64 (n := (p % 23040 / spc T M + 1) * spc T M) (by omega) (by omega), w64 (n := p - p % 23040 + (p % 23040 / spc T M + 1) * spc T M) (by omega) (by omega)]
    unfold nxA nxT
    rw [if_neg hc, if_neg hc]
    exact ⟨rfl, rfl⟩
set_option maxHeartbeats 2000000 in
theorem wnext_ok : SoundEnt Try.prog wnext_e := by
  refine ent_of_ex (Γ := (conOf [mod_e, wspace_e, wteeth_e])) (conOf_sound (scons mod_ok (scons wspace_ok (scons wteeth_ok snil)))) (by kernel_rfl) Try.func64 (by kernel_rfl) (by kernel_rfl) (fun args rows caps res h ho => ?_)
  change wnext_go args rows caps = some res at h
  unfold wnext_go at h
  split at h
  · simp only [Option.some.injEq] at h
    subst h
    rename_i q0_ q1_ q2_
    obtain ⟨p0, p1, _⟩ := ho
    exact EX.of (wnext_tree q0_ q1_ q2_) (wnext_holds q0_ q1_ q2_ p0 p1)
  · cases h
def wposition_res (p : Int) : CRes := ⟨[], .one (.cel (.bool (isT p))), []⟩
def wposition_go : List TV → List RowA → List (List CV) → Option CRes := fun args rows caps =>
  match args, rows, caps with
  | [.cel (.int .i64 p)], [], [] => some (wposition_res p)
  | _, _, _ => none
def wposition_e : Ent := ⟨63, [], wposition_go⟩
set_option maxRecDepth 100000 in
theorem wposition_tree (p : Int) : ((((decide ((0 : Int) ≤ p)) && (decide (p ≤ (1099511627776 : Int)))) = (isT p))) = EXD Try.prog (conOf []) Try.f63 [.cel (.int .i64 p)] [] [] (wposition_res p) := by kernel_rfl
theorem wposition_holds (p : Int)  : (((decide ((0 : Int) ≤ p)) && (decide (p ≤ (1099511627776 : Int)))) = (isT p)) := by
  simp [condF, isT]
set_option maxHeartbeats 2000000 in
theorem wposition_ok : SoundEnt Try.prog wposition_e := by
  refine ent_of_ex (Γ := (conOf [])) (conOf_sound snil) (by kernel_rfl) Try.func63 (by kernel_rfl) (by kernel_rfl) (fun args rows caps res h ho => ?_)
  change wposition_go args rows caps = some res at h
  unfold wposition_go at h
  split at h
  · simp only [Option.some.injEq] at h
    subst h
    rename_i q0_
    skip
    exact EX.of (wposition_tree q0_) (wposition_holds q0_)
  · cases h
def wNext_res (T : Int) (M : Int) (p : Int) : CRes := ⟨[wValid T M, isT p], .tup [.cel (.int .i64 (nxA T M p)), .cel (.int .i64 (nxT T M p)), .cel (.int .i64 (0))], []⟩
def wNext_go : List TV → List RowA → List (List CV) → Option CRes := fun args rows caps =>
  match args, rows, caps with
  | [.agg [.int .i64 T, .int .i64 M], .cel (.int .i64 p)], [], [] => some (wNext_res T M p)
  | _, _, _ => none
def wNext_e : Ent := ⟨21, [], wNext_go⟩
set_option maxRecDepth 100000 in
theorem wNext_tree (T : Int) (M : Int) (p : Int) : ((cnd (!(wValid T M))
  (((0 : Int) = (nxA T M p)) ∧ (((0 : Int) = (nxT T M p)) ∧ ((1 : Int) = (0 : Int))))
  (cnd (!(isT p))
    (((0 : Int) = (nxA T M p)) ∧ (((0 : Int) = (nxT T M p)) ∧ ((2 : Int) = (0 : Int))))
    (cnd (wValid T M)
      (cnd (isT p)
        (((nxA T M p) = (nxA T M p)) ∧ (((nxT T M p) = (nxT T M p)) ∧ ((0 : Int) = (0 : Int))))
        False)
      False)))) = EXD Try.prog (conOf [wvalid_e, wposition_e, wnext_e]) Try.f21 [.agg [.int .i64 T, .int .i64 M], .cel (.int .i64 p)] [] [] (wNext_res T M p) := by kernel_rfl
theorem wNext_holds (T : Int) (M : Int) (p : Int) (p0 : (wValid T M) = true) (p1 : (isT p) = true) : (cnd (!(wValid T M))
  (((0 : Int) = (nxA T M p)) ∧ (((0 : Int) = (nxT T M p)) ∧ ((1 : Int) = (0 : Int))))
  (cnd (!(isT p))
    (((0 : Int) = (nxA T M p)) ∧ (((0 : Int) = (nxT T M p)) ∧ ((2 : Int) = (0 : Int))))
    (cnd (wValid T M)
      (cnd (isT p)
        (((nxA T M p) = (nxA T M p)) ∧ (((nxT T M p) = (nxT T M p)) ∧ ((0 : Int) = (0 : Int))))
        False)
      False))) := by
  simp [p0, p1, cnd]
set_option maxHeartbeats 2000000 in
theorem wNext_ok : SoundEnt Try.prog wNext_e := by
  refine ent_of_ex (Γ := (conOf [wvalid_e, wposition_e, wnext_e])) (conOf_sound (scons wvalid_ok (scons wposition_ok (scons wnext_ok snil)))) (by kernel_rfl) Try.func21 (by kernel_rfl) (by kernel_rfl) (fun args rows caps res h ho => ?_)
  change wNext_go args rows caps = some res at h
  unfold wNext_go at h
  split at h
  · simp only [Option.some.injEq] at h
    subst h
    rename_i q0_ q1_ q2_
    obtain ⟨p0, p1, _⟩ := ho
    exact EX.of (wNext_tree q0_ q1_ q2_) (wNext_holds q0_ q1_ q2_ p0 p1)
  · cases h
/-- An edge of the wheel. -/
def isE (T M p : Int) : Prop := 0 ≤ p ∧ (p % 23040) % spc T M = 0
theorem nx_bd {T M p : Int} (hw : wValid T M = true) (hp : 0 ≤ p) : p + 1 ≤ nxA T M p ∧ nxA T M p ≤ p + 23040 ∧ isE T M (nxA T M p) ∧ (isE T M p → p + 192 ≤ nxA T M p) ∧ 0 ≤ nxT T M p ∧ nxT T M p < tth T M := by
  obtain ⟨b0, b1, b2, b3⟩ := spc_bd hw
  have hh := wValid_iff.1 hw
  have hm : tth T M = T - M := by unfold tth; rw [if_pos hw]
  unfold isE nxA nxT
  rw [hm]
  generalize spc T M = s at *
  obtain ⟨r, hr⟩ : ∃ r, r = p % 23040 := ⟨_, rfl⟩
  have hr0 : 0 ≤ r ∧ r < 23040 := by omega
  rw [← hr]
  have e := Int.emod_add_mul_ediv r s
  have m0 := Int.emod_nonneg r (show s ≠ 0 by omega)
  have m1 := Int.emod_lt_of_pos r (show 0 < s by omega)
  have hq := quo_pos (x := r) (y := s) hr0.1 (by omega)
  have hqT : r / s < T := Int.ediv_lt_of_lt_mul (by omega) (by rw [Int.mul_comm]; omega)
  generalize r / s = q at *
  generalize r % s = k at *
  have c1 : s * q ≤ s * (T - 1) := Int.mul_le_mul_of_nonneg_left (by omega) (by omega)
  have c2 : s * (T - 1) = s * T - s := by rw [Int.mul_sub, Int.mul_one]
  by_cases hc : T - M ≤ q + 1
  · rw [if_pos hc, if_pos hc]
    have e1 : (p - r + 23040) % 23040 = 0 := by omega
    rw [e1]
    refine ⟨by omega, by omega, ⟨by omega, by simp⟩, fun h => ?_, by omega, by omega⟩
    have := h.2
    omega
  · rw [if_neg hc, if_neg hc]
    have c3 : (q + 1) * s = s * q + s := by rw [Int.add_mul, Int.one_mul, Int.mul_comm]
    have c4 : s * (q + 1) ≤ s * (T - 1) := Int.mul_le_mul_of_nonneg_left (by omega) (by omega)
    have c5 : s * (q + 1) = s * q + s := by rw [Int.mul_add, Int.mul_one]
    have e1 : (p - r + (q + 1) * s) % 23040 = (q + 1) * s := by omega
    rw [e1]
    refine ⟨by omega, by omega, ⟨by omega, by rw [Int.mul_comm]; exact Int.mul_emod_right s (q + 1)⟩, fun h => ?_, by omega, by omega⟩
    have := h.2
    omega
def bet1_res (p : Int) (T : Int) (M : Int) : CRes := ⟨[wValid T M, isT p], .one (.cel (.int .i64 (nxA T M p))), []⟩
def bet1_go : List TV → List RowA → List (List CV) → Option CRes := fun args rows caps =>
  match args, rows, caps with
  | [.cel (.int .i64 p), .cel (.ptr 0 0)], [], [[.int .i64 T, .int .i64 M]] => some (bet1_res p T M)
  | _, _, _ => none
def bet1_e : Ent := ⟨68, [], bet1_go⟩
set_option maxRecDepth 100000 in
theorem bet1_tree (p : Int) (T : Int) (M : Int) : ((cnd (wValid T M)
  (cnd (isT p)
    ((nxA T M p) = (nxA T M p))
    False)
  False)) = EXD Try.prog (conOf [wnext_e]) Try.f68 [.cel (.int .i64 p), .cel (.ptr 0 0)] [] [[.int .i64 T, .int .i64 M]] (bet1_res p T M) := by kernel_rfl
theorem bet1_holds (p : Int) (T : Int) (M : Int) (p0 : (wValid T M) = true) (p1 : (isT p) = true) : (cnd (wValid T M)
  (cnd (isT p)
    ((nxA T M p) = (nxA T M p))
    False)
  False) := by
  rw [p0, p1]
  rfl
set_option maxHeartbeats 2000000 in
theorem bet1_ok : SoundEnt Try.prog bet1_e := by
  refine ent_of_ex (Γ := (conOf [wnext_e])) (conOf_sound (scons wnext_ok snil)) (by kernel_rfl) Try.func68 (by kernel_rfl) (by kernel_rfl) (fun args rows caps res h ho => ?_)
  change bet1_go args rows caps = some res at h
  unfold bet1_go at h
  split at h
  · simp only [Option.some.injEq] at h
    subst h
    rename_i q0_ q1_ q2_
    obtain ⟨p0, p1, _⟩ := ho
    exact EX.of (bet1_tree q0_ q1_ q2_) (bet1_holds q0_ q1_ q2_ p0 p1)
  · cases h
/-- The edges behind p, up to b. -/
def edg (T M : Int) : Nat → Int → Int → List Int
  | 0, _, _ => []
  | n + 1, p, b => if p ≤ b then p :: edg T M n (nxA T M p) b else []
def eL (T M a b : Int) : List Int := edg T M 1000 (nxA T M a) b
def collect_res (a : Int) (b : Int) (T : Int) (M : Int) : CRes := ⟨[wValid T M, isT a && isT b, decide (a ≤ b), decide (b ≤ a + 115200)], .tup [.cel (.row 0), .cel (.int .i64 (0))], [.ints .i64 (eL T M a b)]⟩
def collect_go : List TV → List RowA → List (List CV) → Option CRes := fun args rows caps =>
  match args, rows, caps with
  | [.cel (.int .i64 a), .cel (.int .i64 b), .cel (.clo 68 [0])], [], [[.int .i64 T, .int .i64 M]] => some (collect_res a b T M)
  | _, _, _ => none
def collect_e : Ent := ⟨67, [], collect_go⟩
def collect_L1_F (a : Int) (b : Int) (T : Int) (M : Int) (p : Int) (l : List Int) : St := ⟨40, [], [(9, (.one (.cel (.int .i64 p)))), (8, (.one (.cel (.row 0)))), (7, (.one (.cel (.int .i64 (0 : Int))))), (6, (.one (.cel .nilS))), (1, (.one (.cel (.int .i64 b)))), (2, (.one (.cel (.clo 68 [0]))))], [[(.int .i64 T), (.int .i64 M)]], [⟨(.ints .i64 l), some 3⟩], 1⟩
def collect_L1_I (a : Int) (b : Int) (T : Int) (M : Int) (p : Int) (l : List Int) : Prop := (isE T M p ∧ a + 1 + 192 * (l.length : Int) ≤ p ∧ 0 ≤ a) ∧ (l.length ≤ 1000) ∧ (l ++ edg T M (1000 - l.length) p b = eL T M a b)
def collect_L1_m (a : Int) (b : Int) (T : Int) (M : Int) (p : Int) (l : List Int) : Nat := (b + 1 - p).toNat
def collect_L1_N (a : Int) (b : Int) (T : Int) (M : Int) (p' : Int) (l' : List Int) (st_ : St) : Prop := getI st_ 9 fun p => getR st_ 8 fun l => collect_L1_I a b T M p l ∧ collect_L1_m a b T M p l < collect_L1_m a b T M p' l' ∧ SubA st_ (collect_L1_F a b T M p l)
def collect_L1_E (a : Int) (b : Int) (T : Int) (M : Int) (st_ : St) : Prop := getI st_ 9 fun p => getR st_ 8 fun l => collect_L1_I a b T M p l ∧ SubA st_ (collect_L1_F a b T M p l)
def collect_L1_S1 (a : Int) (b : Int) (T : Int) (M : Int) : St := ⟨40, [18, 13], [(9, (.one (.cel (.int .i64 (nxA T M a))))), (25, (.one (.cel (.int .i64 (nxA T M a))))), (24, (.one (.cel (.int .i64 a)))), (23, (.one (.cel (.clo 68 [0])))), (8, (.one (.cel .nilS))), (22, (.one (.cel (.bool (((!(isT a)) || (!(isT b))) || (decide (b < a))))))), (21, (.spec 18 Bool.false (.cel (.bool (decide (b < a)))))), (20, (.spec 18 Bool.false (.cel (.int .i64 b)))), (19, (.spec 18 Bool.false (.cel (.int .i64 a)))), (18, (.one (.cel (.bool ((!(isT a)) || (!(isT b))))))), (17, (.one (.cel (.bool ((!(isT a)) || (!(isT b))))))), (16, (.spec 13 Bool.false (.cel (.bool (!(isT b)))))), (15, (.spec 13 Bool.false (.cel (.bool (isT b))))), (14, (.spec 13 Bool.false (.cel (.int .i64 b)))), (13, (.one (.cel (.bool (!(isT a)))))), (12, (.one (.cel (.bool (!(isT a)))))), (11, (.one (.cel (.bool (isT a))))), (10, (.one (.cel (.int .i64 a)))), (7, (.one (.cel (.int .i64 (0 : Int))))), (6, (.one (.cel .nilS))), (0, (.one (.cel (.int .i64 a)))), (1, (.one (.cel (.int .i64 b)))), (2, (.one (.cel (.clo 68 [0]))))], [[(.int .i64 T), (.int .i64 M)]], [], 1⟩
def collect_L1_T (a : Int) (b : Int) (T : Int) (M : Int) (p : Int) (l : List Int) : Prop := (cnd (decide (p ≤ b))
  (cnd (decide ((((List.length l) : Nat) : Int) = (1000 : Int)))
    ((True ∧ ((5 : Int) = (0 : Int))) ∧ (((eL T M a b) = ([] : List Int)) ∧ True))
    (cnd (decide ((List.length (l ++ [p])) ≤ 4294967296))
      (cnd (wValid T M)
        (cnd (isT p)
          ((collect_L1_I a b T M (nxA T M p) (l ++ [p])) ∧ (((collect_L1_m a b T M (nxA T M p) (l ++ [p])) < (collect_L1_m a b T M p l)) ∧ (((nxA T M p) = (nxA T M p)) ∧ (True ∧ (((0 : Int) = (0 : Int)) ∧ (True ∧ ((b = b) ∧ (True ∧ (((T = T) ∧ (M = M)) ∧ (((l ++ [p]) = (l ++ [p])) ∧ True))))))))))
          False)
        False)
      False))
  ((True ∧ ((0 : Int) = (0 : Int))) ∧ ((l = (eL T M a b)) ∧ True)))
set_option maxRecDepth 100000 in
theorem collect_L1_tree (a : Int) (b : Int) (T : Int) (M : Int) (p : Int) (l : List Int) : collect_L1_T a b T M p l = ex Try.prog (conOf [wposition_e, bet1_e]) (subC (bodyOf Try.f67) [1, 1, 1, 0, 1, 0, 0]) (nextE (collect_L1_N a b T M p l) (kont Try.prog (conOf [wposition_e, bet1_e]) (bodyOf Try.f67) [1, 1, 1, 0, 1, 0] (retPost Try.prog Try.f67 0 (collect_res a b T M)))) (collect_L1_F a b T M p l) := by kernel_rfl
set_option maxRecDepth 100000 in
theorem collect_L1_round (a : Int) (b : Int) (T : Int) (M : Int) (p : Int) (l : List Int) (p0 : (wValid T M) = true) (p1 : (isT a && isT b) = true) (p2 : (decide (a ≤ b)) = true) (p3 : (decide (b ≤ a + 115200)) = true) (hI_L1 : collect_L1_I a b T M p l) : collect_L1_T a b T M p l := by
  obtain ⟨⟨⟨a1, a1'⟩, a2, a0⟩, a4, a3⟩ := hI_L1
  simp only [Bool.and_eq_true, isT_iff, decide_eq_true_eq] at p1 p2 p3
  unfold collect_L1_T
  by_cases hp : p ≤ b
  · have hl : ((l.length : Nat) : Int) ≤ 600 := by omega
    have hlen : (l ++ [p]).length = l.length + 1 := by simp
    obtain ⟨n1, n2, n3, n4, _⟩ := nx_bd (T := T) (M := M) p0 a1
    have hpT : isT p = true := isT_iff.2 (by omega)
    rw [decide_eq_true hp, decide_eq_false (show ¬ (l.length : Int) = 1000 by omega), decide_eq_true (show (l ++ [p]).length ≤ 4294967296 by omega), p0, hpT]
    refine ⟨⟨⟨n3, ?_, a0⟩, by omega, ?_⟩, ?_, by simp⟩
    · have := n4 ⟨a1, a1'⟩
      rw [hlen]; push_cast; omega
    · rw [← a3, hlen, show 1000 - l.length = (1000 - (l.length + 1)) + 1 by omega, edg, if_pos hp, List.append_assoc]
      rfl
    · unfold collect_L1_m; omega
  · rw [decide_eq_false hp]
    have : edg T M (1000 - l.length) p b = [] := by
      cases 1000 - l.length with
      | zero => rfl
      | succ n => rw [edg, if_neg hp]
    rw [this, List.append_nil] at a3
    exact ⟨⟨trivial, rfl⟩, a3, trivial⟩
set_option maxRecDepth 100000 in
theorem collect_L1_entry1 (a : Int) (b : Int) (T : Int) (M : Int) : (((collect_L1_I a b T M (nxA T M a) ([] : List Int)) ∧ (((nxA T M a) = (nxA T M a)) ∧ (True ∧ (((0 : Int) = (0 : Int)) ∧ (True ∧ ((b = b) ∧ (True ∧ (((T = T) ∧ (M = M)) ∧ ((([] : List Int) = ([] : List Int)) ∧ True)))))))))) = collect_L1_E a b T M (collect_L1_S1 a b T M) := by kernel_rfl
theorem collect_L1_1 (a : Int) (b : Int) (T : Int) (M : Int) (p0 : (wValid T M) = true) (p1 : (isT a && isT b) = true) (p2 : (decide (a ≤ b)) = true) (p3 : (decide (b ≤ a + 115200)) = true) (h : ((collect_L1_I a b T M (nxA T M a) ([] : List Int)) ∧ (((nxA T M a) = (nxA T M a)) ∧ (True ∧ (((0 : Int) = (0 : Int)) ∧ (True ∧ ((b = b) ∧ (True ∧ (((T = T) ∧ (M = M)) ∧ ((([] : List Int) = ([] : List Int)) ∧ True)))))))))) : LoopP (ex Try.prog (conOf [wposition_e, bet1_e]) (subC (bodyOf Try.f67) [1, 1, 1, 0, 1, 0, 0])) (kont Try.prog (conOf [wposition_e, bet1_e]) (bodyOf Try.f67) [1, 1, 1, 0, 1, 0] (retPost Try.prog Try.f67 0 (collect_res a b T M))) (collect_L1_S1 a b T M) := by
  have hE : collect_L1_E a b T M (collect_L1_S1 a b T M) := Eq.mp (collect_L1_entry1 a b T M) h
  unfold collect_L1_E at hE
  obtain ⟨p, hE⟩ := getI_of hE
  obtain ⟨l, hE⟩ := getR_of hE
  refine loop_of (α := (Int) × (List Int)) (fun xx_ => collect_L1_F a b T M xx_.1 xx_.2) (fun xx_ => collect_L1_I a b T M xx_.1 xx_.2) (fun xx_ => collect_L1_m a b T M xx_.1 xx_.2) (fun xx_ => collect_L1_N a b T M xx_.1 xx_.2) (fun xx_ => collect_L1_T a b T M xx_.1 xx_.2) (fun xx_ s_ h => ?_) ⟨⟨p, l⟩, hE⟩ (fun xx_ => collect_L1_tree a b T M xx_.1 xx_.2) (fun xx_ hI => collect_L1_round a b T M xx_.1 xx_.2 p0 p1 p2 p3 hI)
  unfold collect_L1_N at h
  obtain ⟨p, h⟩ := getI_of h
  obtain ⟨l, h⟩ := getR_of h
  exact ⟨⟨p, l⟩, h⟩
set_option maxRecDepth 100000 in
theorem collect_tree (a : Int) (b : Int) (T : Int) (M : Int) : ((cnd (((!(isT a)) || (!(isT b))) || (decide (b < a)))
  ((True ∧ ((2 : Int) = (0 : Int))) ∧ (((eL T M a b) = ([] : List Int)) ∧ True))
  (cnd (wValid T M)
    (cnd (isT a)
      (LoopP (ex Try.prog (conOf [wposition_e, bet1_e]) (subC (bodyOf Try.f67) [1, 1, 1, 0, 1, 0, 0])) (kont Try.prog (conOf [wposition_e, bet1_e]) (bodyOf Try.f67) [1, 1, 1, 0, 1, 0] (retPost Try.prog Try.f67 0 (collect_res a b T M))) (collect_L1_S1 a b T M))
      False)
    False))) = EXD Try.prog (conOf [wposition_e, bet1_e]) Try.f67 [.cel (.int .i64 a), .cel (.int .i64 b), .cel (.clo 68 [0])] [] [[.int .i64 T, .int .i64 M]] (collect_res a b T M) := by kernel_rfl
theorem collect_holds (a : Int) (b : Int) (T : Int) (M : Int) (p0 : (wValid T M) = true) (p1 : (isT a && isT b) = true) (p2 : (decide (a ≤ b)) = true) (p3 : (decide (b ≤ a + 115200)) = true) : (cnd (((!(isT a)) || (!(isT b))) || (decide (b < a)))
  ((True ∧ ((2 : Int) = (0 : Int))) ∧ (((eL T M a b) = ([] : List Int)) ∧ True))
  (cnd (wValid T M)
    (cnd (isT a)
      (LoopP (ex Try.prog (conOf [wposition_e, bet1_e]) (subC (bodyOf Try.f67) [1, 1, 1, 0, 1, 0, 0])) (kont Try.prog (conOf [wposition_e, bet1_e]) (bodyOf Try.f67) [1, 1, 1, 0, 1, 0] (retPost Try.prog Try.f67 0 (collect_res a b T M))) (collect_L1_S1 a b T M))
      False)
    False)) := by
  have q1 := p1; have q2 := p2; have q3 := p3
  simp only [Bool.and_eq_true, decide_eq_true_eq] at p1 p2 p3
  have h1 := isT_iff.1 p1.1
  rw [p1.1, p1.2, decide_eq_false (show ¬ b < a by omega), p0]
  obtain ⟨n1, n2, n3, n4, _⟩ := nx_bd (T := T) (M := M) p0 h1.1
  exact collect_L1_1 a b T M p0 q1 q2 q3 ⟨⟨⟨n3, by simp; omega, h1.1⟩, by simp, by simp [eL]⟩, by simp⟩
set_option maxHeartbeats 2000000 in
theorem collect_ok : SoundEnt Try.prog collect_e := by
  refine ent_of_ex (Γ := (conOf [wposition_e, bet1_e])) (conOf_sound (scons wposition_ok (scons bet1_ok snil))) (by kernel_rfl) Try.func67 (by kernel_rfl) (by kernel_rfl) (fun args rows caps res h ho => ?_)
  change collect_go args rows caps = some res at h
  unfold collect_go at h
  split at h
  · simp only [Option.some.injEq] at h
    subst h
    rename_i q0_ q1_ q2_ q3_
    obtain ⟨p0, p1, p2, p3, _⟩ := ho
    exact EX.of (collect_tree q0_ q1_ q2_ q3_) (collect_holds q0_ q1_ q2_ q3_ p0 p1 p2 p3)
  · cases h
def between_res (T : Int) (M : Int) (a : Int) (b : Int) : CRes := ⟨[isT a && isT b, decide (a ≤ b), decide (b ≤ a + 115200)], .tup [.cel (.row 0), .cel (.int .i64 (if wValid T M then 0 else 1))], [.ints .i64 (if wValid T M then eL T M a b else [])]⟩
def between_go : List TV → List RowA → List (List CV) → Option CRes := fun args rows caps =>
  match args, rows, caps with
  | [.agg [.int .i64 T, .int .i64 M], .cel (.int .i64 a), .cel (.int .i64 b)], [], [] => some (between_res T M a b)
  | _, _, _ => none
def between_e : Ent := ⟨25, [], between_go⟩
set_option maxRecDepth 100000 in
theorem between_tree (T : Int) (M : Int) (a : Int) (b : Int) : ((cnd (!(wValid T M))
  ((True ∧ ((1 : Int) = (if ((wValid T M) = Bool.true) then (0 : Int) else (1 : Int)))) ∧ (((if ((wValid T M) = Bool.true) then (eL T M a b) else ([] : List Int)) = ([] : List Int)) ∧ True))
  (cnd (wValid T M)
    (cnd ((isT a) && (isT b))
      (cnd (decide (a ≤ b))
        (cnd (decide (b ≤ (a + (115200 : Int))))
          ((True ∧ ((0 : Int) = (if ((wValid T M) = Bool.true) then (0 : Int) else (1 : Int)))) ∧ (((eL T M a b) = (if ((wValid T M) = Bool.true) then (eL T M a b) else ([] : List Int))) ∧ True))
          False)
        False)
      False)
    False))) = EXD Try.prog (conOf [wvalid_e, collect_e]) Try.f25 [.agg [.int .i64 T, .int .i64 M], .cel (.int .i64 a), .cel (.int .i64 b)] [] [] (between_res T M a b) := by kernel_rfl
theorem between_holds (T : Int) (M : Int) (a : Int) (b : Int) (p0 : (isT a && isT b) = true) (p1 : (decide (a ≤ b)) = true) (p2 : (decide (b ≤ a + 115200)) = true) : (cnd (!(wValid T M))
  ((True ∧ ((1 : Int) = (if ((wValid T M) = Bool.true) then (0 : Int) else (1 : Int)))) ∧ (((if ((wValid T M) = Bool.true) then (eL T M a b) else ([] : List Int)) = ([] : List Int)) ∧ True))
  (cnd (wValid T M)
    (cnd ((isT a) && (isT b))
      (cnd (decide (a ≤ b))
        (cnd (decide (b ≤ (a + (115200 : Int))))
          ((True ∧ ((0 : Int) = (if ((wValid T M) = Bool.true) then (0 : Int) else (1 : Int)))) ∧ (((eL T M a b) = (if ((wValid T M) = Bool.true) then (eL T M a b) else ([] : List Int))) ∧ True))
          False)
        False)
      False)
    False)) := by
  rw [p0, p1, p2]
  cases hw : wValid T M <;> simp [cnd]
set_option maxHeartbeats 2000000 in
theorem between_ok : SoundEnt Try.prog between_e := by
  refine ent_of_ex (Γ := (conOf [wvalid_e, collect_e])) (conOf_sound (scons wvalid_ok (scons collect_ok snil))) (by kernel_rfl) Try.func25 (by kernel_rfl) (by kernel_rfl) (fun args rows caps res h ho => ?_)
  change between_go args rows caps = some res at h
  unfold between_go at h
  split at h
  · simp only [Option.some.injEq] at h
    subst h
    rename_i q0_ q1_ q2_ q3_
    obtain ⟨p0, p1, p2, _⟩ := ho
    exact EX.of (between_tree q0_ q1_ q2_ q3_) (between_holds q0_ q1_ q2_ q3_ p0 p1 p2)
  · cases h
end Go.Proofs.Ythfliohfkhnpiaa

