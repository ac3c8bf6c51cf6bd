/- The reference's crank. -/
import Derived.Test.YthfliohfkhnpiaaJ6
namespace Go.Proofs.Ythfliohfkhnpiaa
set_option linter.unusedVariables false
set_option linter.unusedSimpArgs false
open Go.RowKit

def rwvalid_res (T : Int) (M : Int) : CRes := ⟨[], .one (.cel (.bool (wValid T M))), []⟩
def rwvalid_go : List TV → List RowA → List (List CV) → Option CRes := fun args rows caps =>
  match args, rows, caps with
  | [.agg [.int .i64 T, .int .i64 M]], [], [] => some (rwvalid_res T M)
  | _, _, _ => none
def rwvalid_e : Ent := ⟨70, [], rwvalid_go⟩
set_option maxRecDepth 100000 in
theorem rwvalid_tree (T : Int) (M : Int) : ((cnd ((!((((((decide (M = (1 : Int))) || (decide (M = (2 : Int)))) && (decide ((12 : Int) ≤ T))) && (decide (T ≤ (120 : Int)))) && (decide ((Go.IntKind.wrap Go.IntKind.i64 ((8 : Int) * M)) ≤ T))) == Bool.true)) || (decide (T ≠ (0 : Int))))
  (((((((decide (M = (1 : Int))) || (decide (M = (2 : Int)))) && (decide ((12 : Int) ≤ T))) && (decide (T ≤ (120 : Int)))) && (decide ((Go.IntKind.wrap Go.IntKind.i64 ((8 : Int) * M)) ≤ T))) && (decide ((Int.tmod (23040 : Int) T) = (0 : Int)))) = (wValid T M))
  False)) = EXD Try.prog (conOf []) Try.f70 [.agg [.int .i64 T, .int .i64 M]] [] [] (rwvalid_res T M) := by kernel_rfl
theorem rwvalid_holds (T : Int) (M : Int)  : (cnd ((!((((((decide (M = (1 : Int))) || (decide (M = (2 : Int)))) && (decide ((12 : Int) ≤ T))) && (decide (T ≤ (120 : Int)))) && (decide ((Go.IntKind.wrap Go.IntKind.i64 ((8 : Int) * M)) ≤ T))) == Bool.true)) || (decide (T ≠ (0 : Int))))
  (((((((decide (M = (1 : Int))) || (decide (M = (2 : Int)))) && (decide ((12 : Int) ≤ T))) && (decide (T ≤ (120 : Int)))) && (decide ((Go.IntKind.wrap Go.IntKind.i64 ((8 : Int) * M)) ≤ T))) && (decide ((Int.tmod (23040 : Int) T) = (0 : Int)))) = (wValid T M))
  False) := by
  by_cases hM : M = 1 ∨ M = 2
  · rw [w64 (n := 8 * M) (by omega) (by omega)]
    by_cases hT : 12 ≤ T
    · have e : Int.tmod 23040 T = 23040 % T := tmod_pos (by decide)
      have h0 : decide (T ≠ 0) = true := by simp; omega
      rw [e, h0, Bool.or_true]
      simp only [cnd, wValid]
    · have h0 : decide (12 ≤ T) = false := by simpa using hT
      rw [h0]
      simp [cnd, wValid, h0]
  · have h0 : (decide (M = 1) || decide (M = 2)) = false := by simp; omega
    rw [h0]
    simp [cnd, wValid, h0]
set_option maxHeartbeats 2000000 in
theorem rwvalid_ok : SoundEnt Try.prog rwvalid_e := by
  refine ent_of_ex (Γ := (conOf [])) (conOf_sound snil) (by kernel_rfl) Try.func70 (by kernel_rfl) (by kernel_rfl) (fun args rows caps res h ho => ?_)
  change rwvalid_go args rows caps = some res at h
  unfold rwvalid_go at h
  split at h
  · simp only [Option.some.injEq] at h
    subst h
    rename_i q0_ q1_
    skip
    exact EX.of (rwvalid_tree q0_ q1_) (rwvalid_holds q0_ q1_)
  · cases h
def rspace_res (T : Int) (M : Int) : CRes := ⟨[wValid T M], .one (.cel (.int .i64 (spc T M))), []⟩
def rspace_go : List TV → List RowA → List (List CV) → Option CRes := fun args rows caps =>
  match args, rows, caps with
  | [.agg [.int .i64 T, .int .i64 M]], [], [] => some (rspace_res T M)
  | _, _, _ => none
def rspace_e : Ent := ⟨83, [], rspace_go⟩
set_option maxRecDepth 100000 in
theorem rspace_tree (T : Int) (M : Int) : ((cnd (decide (T ≠ (0 : Int)))
  ((Go.IntKind.wrap Go.IntKind.i64 (Int.tdiv (23040 : Int) T)) = (spc T M))
  False)) = EXD Try.prog (conOf []) Try.f83 [.agg [.int .i64 T, .int .i64 M]] [] [] (rspace_res T M) := by kernel_rfl
theorem rspace_holds (T : Int) (M : Int) (p0 : (wValid T M) = true) : (cnd (decide (T ≠ (0 : Int)))
  ((Go.IntKind.wrap Go.IntKind.i64 (Int.tdiv (23040 : Int) T)) = (spc T M))
  False) := by
  obtain ⟨b0, b1, b2, b3⟩ := spc_bd p0
  have hh := wValid_iff.1 p0
  have h0 : decide (T ≠ 0) = true := by simp; omega
  have e : Int.tdiv 23040 T = 23040 / T := tdiv_pos (by decide)
  rw [h0, e, ← b3, w64 (by omega) (by omega)]
  rfl
set_option maxHeartbeats 2000000 in
theorem rspace_ok : SoundEnt Try.prog rspace_e := by
  refine ent_of_ex (Γ := (conOf [])) (conOf_sound snil) (by kernel_rfl) Try.func83 (by kernel_rfl) (by kernel_rfl) (fun args rows caps res h ho => ?_)
  change rspace_go args rows caps = some res at h
  unfold rspace_go at h
  split at h
  · simp only [Option.some.injEq] at h
    subst h
    rename_i q0_ q1_
    obtain ⟨p0, _⟩ := ho
    exact EX.of (rspace_tree q0_ q1_) (rspace_holds q0_ q1_ p0)
  · cases h
def rteeth_res (T : Int) (M : Int) : CRes := ⟨[wValid T M], .one (.cel (.int .i64 (tth T M))), []⟩
def rteeth_go : List TV → List RowA → List (List CV) → Option CRes := fun args rows caps =>
  match args, rows, caps with
  | [.agg [.int .i64 T, .int .i64 M]], [], [] => some (rteeth_res T M)
  | _, _, _ => none
def rteeth_e : Ent := ⟨130, [], rteeth_go⟩
set_option maxRecDepth 100000 in
theorem rteeth_tree (T : Int) (M : Int) : (((Go.IntKind.wrap Go.IntKind.i64 (T - M)) = (tth T M))) = EXD Try.prog (conOf []) Try.f130 [.agg [.int .i64 T, .int .i64 M]] [] [] (rteeth_res T M) := by kernel_rfl
theorem rteeth_holds (T : Int) (M : Int) (p0 : (wValid T M) = true) : ((Go.IntKind.wrap Go.IntKind.i64 (T - M)) = (tth T M)) := by
  have hh := wValid_iff.1 p0
  unfold tth
  rw [if_pos p0, w64 (by omega) (by omega)]
set_option maxHeartbeats 2000000 in
theorem rteeth_ok : SoundEnt Try.prog rteeth_e := by
  refine ent_of_ex (Γ := (conOf [])) (conOf_sound snil) (by kernel_rfl) Try.func130 (by kernel_rfl) (by kernel_rfl) (fun args rows caps res h ho => ?_)
  change rteeth_go args rows caps = some res at h
  unfold rteeth_go at h
  split at h
  · simp only [Option.some.injEq] at h
    subst h
    rename_i q0_ q1_
    obtain ⟨p0, _⟩ := ho
    exact EX.of (rteeth_tree q0_ q1_) (rteeth_holds q0_ q1_ p0)
  · cases h
def rnext_res (T : Int) (M : Int) (p : Int) : CRes := ⟨[wValid T M, isT p], .tup [.cel (.int .i64 (nxA T M p)), .cel (.int .i64 (nxT T M p))], []⟩
def rnext_go : List TV → List RowA → List (List CV) → Option CRes := fun args rows caps =>
  match args, rows, caps with
  | [.agg [.int .i64 T, .int .i64 M], .cel (.int .i64 p)], [], [] => some (rnext_res T M p)
  | _, _, _ => none
def rnext_e : Ent := ⟨108, [], rnext_go⟩
def rnext_L1_F (T : Int) (M : Int) (p : Int) (i : Int) : St := ⟨36, [], [(7, (.one (.cel (.int .i64 i)))), (6, (.one (.cel (.int .i64 (Go.IntKind.wrap Go.IntKind.i64 (Int.tdiv p (23040 : Int))))))), (5, (.one (.cel (.int .i64 (0 : Int))))), (4, (.one (.cel (.int .i64 (0 : Int))))), (2, (.one (.cel (.ptr 0 0)))), (1, (.one (.cel (.int .i64 p))))], [[(.int .i64 T), (.int .i64 M)]], [], 0⟩
def rnext_L1_I (T : Int) (M : Int) (p : Int) (i : Int) : Prop := (0 ≤ i ∧ i ≤ p % 23040 / spc T M + 1)
def rnext_L1_m (T : Int) (M : Int) (p : Int) (i : Int) : Nat := (tth T M - i).toNat
def rnext_L1_N (T : Int) (M : Int) (p : Int) (i' : Int) (st_ : St) : Prop := getI st_ 7 fun i => rnext_L1_I T M p i ∧ rnext_L1_m T M p i < rnext_L1_m T M p i' ∧ SubA st_ (rnext_L1_F T M p i)
def rnext_L1_E (T : Int) (M : Int) (p : Int) (st_ : St) : Prop := getI st_ 7 fun i => rnext_L1_I T M p i ∧ SubA st_ (rnext_L1_F T M p i)
def rnext_L1_S1 (T : Int) (M : Int) (p : Int) : St := ⟨36, [], [(7, (.one (.cel (.int .i64 (0 : Int))))), (6, (.one (.cel (.int .i64 (Go.IntKind.wrap Go.IntKind.i64 (Int.tdiv p (23040 : Int))))))), (9, (.one (.cel (.int .i64 (Go.IntKind.wrap Go.IntKind.i64 (Int.tdiv p (23040 : Int))))))), (8, (.one (.cel (.int .i64 p)))), (5, (.one (.cel (.int .i64 (0 : Int))))), (4, (.one (.cel (.int .i64 (0 : Int))))), (2, (.one (.cel (.ptr 0 0)))), (0, (.one (.agg [(.int .i64 T), (.int .i64 M)]))), (1, (.one (.cel (.int .i64 p))))], [[(.int .i64 T), (.int .i64 M)]], [], 0⟩
def rnext_L1_T (T : Int) (M : Int) (p : Int) (i : Int) : Prop := (cnd (wValid T M)
  (cnd (decide (i < (tth T M)))
    (cnd (wValid T M)
      (cnd (decide (p < (Go.IntKind.wrap Go.IntKind.i64 ((Go.IntKind.wrap Go.IntKind.i64 ((Go.IntKind.wrap Go.IntKind.i64 (Int.tdiv p (23040 : Int))) * (23040 : Int))) + (Go.IntKind.wrap Go.IntKind.i64 (i * (spc T M)))))))
        (cnd (wValid T M)
          (((Go.IntKind.wrap Go.IntKind.i64 ((Go.IntKind.wrap Go.IntKind.i64 ((Go.IntKind.wrap Go.IntKind.i64 (Int.tdiv p (23040 : Int))) * (23040 : Int))) + (Go.IntKind.wrap Go.IntKind.i64 (i * (spc T M))))) = (nxA T M p)) ∧ (i = (nxT T M p)))
          False)
        ((rnext_L1_I T M p (Go.IntKind.wrap Go.IntKind.i64 (i + (1 : Int)))) ∧ (((rnext_L1_m T M p (Go.IntKind.wrap Go.IntKind.i64 (i + (1 : Int)))) < (rnext_L1_m T M p i)) ∧ (((Go.IntKind.wrap Go.IntKind.i64 (i + (1 : Int))) = (Go.IntKind.wrap Go.IntKind.i64 (i + (1 : Int)))) ∧ (((Go.IntKind.wrap Go.IntKind.i64 (Int.tdiv p (23040 : Int))) = (Go.IntKind.wrap Go.IntKind.i64 (Int.tdiv p (23040 : Int)))) ∧ (((0 : Int) = (0 : Int)) ∧ (((0 : Int) = (0 : Int)) ∧ (True ∧ ((p = p) ∧ (((T = T) ∧ (M = M)) ∧ True))))))))))
      False)
    (((Go.IntKind.wrap Go.IntKind.i64 ((Go.IntKind.wrap Go.IntKind.i64 ((Go.IntKind.wrap Go.IntKind.i64 (Int.tdiv p (23040 : Int))) + (1 : Int))) * (23040 : Int))) = (nxA T M p)) ∧ ((0 : Int) = (nxT T M p))))
  False)
set_option maxRecDepth 100000 in
theorem rnext_L1_tree (T : Int) (M : Int) (p : Int) (i : Int) : rnext_L1_T T M p i = ex Try.prog (conOf [rspace_e, rteeth_e]) (subC (bodyOf Try.f108) [1, 1, 0, 1, 0, 0]) (nextE (rnext_L1_N T M p i) (kont Try.prog (conOf [rspace_e, rteeth_e]) (bodyOf Try.f108) [1, 1, 0, 1, 0] (retPost Try.prog Try.f108 0 (rnext_res T M p)))) (rnext_L1_F T M p i) := by kernel_rfl
set_option maxRecDepth 100000 in
theorem rnext_L1_round (T : Int) (M : Int) (p : Int) (i : Int) (p0 : (wValid T M) = true) (p1 : (isT p) = true) (hI_L1 : rnext_L1_I T M p i) : rnext_L1_T T M p i := by
  obtain ⟨a1, a2⟩ := hI_L1
  obtain ⟨b0, b1, b2, b3⟩ := spc_bd p0
  have hh := wValid_iff.1 p0
  have hp := isT_iff.1 p1
  have hm : tth T M = T - M := by unfold tth; rw [if_pos p0]
  have hF : i + 1 ≤ p % 23040 / spc T M + 1 → rnext_L1_I T M p (i + 1) := fun h => ⟨by omega, h⟩
  have hμ : i < tth T M → rnext_L1_m T M p (i + 1) < rnext_L1_m T M p i := fun h => by unfold rnext_L1_m; omega
  unfold rnext_L1_T
  rw [p0, show Int.tdiv p 23040 = p / 23040 from tdiv_pos (by omega), w64 (n := p / 23040) (by omega) (by omega), w64 (n := p / 23040 * 23040) (by omega) (by omega)]
  have hq := quo_pos (x := p % 23040) (y := spc T M) (by omega) (by omega)
  have e := Int.emod_add_mul_ediv (p % 23040) (spc T M)
  have m0 := Int.emod_nonneg (p % 23040) (show spc T M ≠ 0 by omega)
  have m1 := Int.emod_lt_of_pos (p % 23040) (show 0 < spc T M by omega)
  unfold nxA nxT
  rw [hm] at hμ ⊢
  by_cases hi : i < T - M
  · have hb := mul_bd (a := i) (b := spc T M) (A := 120) (B := 1920) (by omega) (by omega) (by omega) b1
    rw [decide_eq_true hi, w64 (n := i * spc T M) (by omega) (by omega), w64 (n := p / 23040 * 23040 + i * spc T M) (by omega) (by omega), w64 (n := i + 1) (by omega) (by omega)]
    generalize hqq : p % 23040 / spc T M = q at *
    have hqs : spc T M * q ≤ p % 23040 := by omega
    by_cases hc : p < p / 23040 * 23040 + i * spc T M
    · rw [decide_eq_true hc]
      have hiq : i = q + 1 := by
        rcases Int.lt_or_le i (q + 1) with h | h
        · have := Int.mul_le_mul_of_nonneg_right (show i ≤ q by omega) (show 0 ≤ spc T M by omega)
          rw [Int.mul_comm q] at this
          omega
        · omega
      rw [if_neg (by omega), if_neg (by omega)]
      refine ⟨?_, hiq⟩
      rw [hiq]
      omega
    · rw [decide_eq_false hc]
      refine ⟨hF ?_, hμ hi, by simp⟩
      rcases Int.lt_or_le i (q + 1) with h | h
      · omega
      · have := Int.mul_le_mul_of_nonneg_right h (show 0 ≤ spc T M by omega)
        rw [Int.add_mul, Int.one_mul, Int.mul_comm q] at this
        omega
  · rw [decide_eq_false hi, w64 (n := p / 23040 + 1) (by omega) (by omega), w64 (n := (p / 23040 + 1) * 23040) (by omega) (by omega), if_pos (by omega), if_pos (by omega)]
    exact ⟨by omega, rfl⟩
set_option maxRecDepth 100000 in
theorem rnext_L1_entry1 (T : Int) (M : Int) (p : Int) : (((rnext_L1_I T M p (0 : Int)) ∧ (((0 : Int) = (0 : Int)) ∧ (((Go.IntKind.wrap Go.IntKind.i64 (Int.tdiv p (23040 : Int))) = (Go.IntKind.wrap Go.IntKind.i64 (Int.tdiv p (23040 : Int)))) ∧ (((0 : Int) = (0 : Int)) ∧ (((0 : Int) = (0 : Int)) ∧ (True ∧ ((p = p) ∧ (((T = T) ∧ (M = M)) ∧ True))))))))) = rnext_L1_E T M p (rnext_L1_S1 T M p) := by kernel_rfl
theorem rnext_L1_1 (T : Int) (M : Int) (p : Int) (p0 : (wValid T M) = true) (p1 : (isT p) = true) (h : ((rnext_L1_I T M p (0 : Int)) ∧ (((0 : Int) = (0 : Int)) ∧ (((Go.IntKind.wrap Go.IntKind.i64 (Int.tdiv p (23040 : Int))) = (Go.IntKind.wrap Go.IntKind.i64 (Int.tdiv p (23040 : Int)))) ∧ (((0 : Int) = (0 : Int)) ∧ (((0 : Int) = (0 : Int)) ∧ (True ∧ ((p = p) ∧ (((T = T) ∧ (M = M)) ∧ True))))))))) : LoopP (ex Try.prog (conOf [rspace_e, rteeth_e]) (subC (bodyOf Try.f108) [1, 1, 0, 1, 0, 0])) (kont Try.prog (conOf [rspace_e, rteeth_e]) (bodyOf Try.f108) [1, 1, 0, 1, 0] (retPost Try.prog Try.f108 0 (rnext_res T M p))) (rnext_L1_S1 T M p) := by
  have hE : rnext_L1_E T M p (rnext_L1_S1 T M p) := Eq.mp (rnext_L1_entry1 T M p) h
  unfold rnext_L1_E at hE
  obtain ⟨i, hE⟩ := getI_of hE
  refine loop_of (α := (Int)) (fun xx_ => rnext_L1_F T M p xx_) (fun xx_ => rnext_L1_I T M p xx_) (fun xx_ => rnext_L1_m T M p xx_) (fun xx_ => rnext_L1_N T M p xx_) (fun xx_ => rnext_L1_T T M p xx_) (fun xx_ s_ h => ?_) ⟨i, hE⟩ (fun xx_ => rnext_L1_tree T M p xx_) (fun xx_ hI => rnext_L1_round T M p xx_ p0 p1 hI)
  unfold rnext_L1_N at h
  obtain ⟨i, h⟩ := getI_of h
  exact ⟨i, h⟩
set_option maxRecDepth 100000 in
theorem rnext_tree (T : Int) (M : Int) (p : Int) : ((LoopP (ex Try.prog (conOf [rspace_e, rteeth_e]) (subC (bodyOf Try.f108) [1, 1, 0, 1, 0, 0])) (kont Try.prog (conOf [rspace_e, rteeth_e]) (bodyOf Try.f108) [1, 1, 0, 1, 0] (retPost Try.prog Try.f108 0 (rnext_res T M p))) (rnext_L1_S1 T M p))) = EXD Try.prog (conOf [rspace_e, rteeth_e]) Try.f108 [.agg [.int .i64 T, .int .i64 M], .cel (.int .i64 p)] [] [] (rnext_res T M p) := by kernel_rfl
theorem rnext_holds (T : Int) (M : Int) (p : Int) (p0 : (wValid T M) = true) (p1 : (isT p) = true) : (LoopP (ex Try.prog (conOf [rspace_e, rteeth_e]) (subC (bodyOf Try.f108) [1, 1, 0, 1, 0, 0])) (kont Try.prog (conOf [rspace_e, rteeth_e]) (bodyOf Try.f108) [1, 1, 0, 1, 0] (retPost Try.prog Try.f108 0 (rnext_res T M p))) (rnext_L1_S1 T M p)) := by
  have hp := isT_iff.1 p1
  obtain ⟨b0, b1, b2, b3⟩ := spc_bd p0
  have hq := quo_pos (x := p % 23040) (y := spc T M) (by omega) (by omega)
  exact rnext_L1_1 T M p p0 p1 ⟨⟨by omega, by omega⟩, by simp⟩
set_option maxHeartbeats 2000000 in
theorem rnext_ok : SoundEnt Try.prog rnext_e := by
  refine ent_of_ex (Γ := (conOf [rspace_e, rteeth_e])) (conOf_sound (scons rspace_ok (scons rteeth_ok snil))) (by kernel_rfl) Try.func108 (by kernel_rfl) (by kernel_rfl) (fun args rows caps res h ho => ?_)
  change rnext_go args rows caps = some res at h
  unfold rnext_go at h
  split at h
  · simp only [Option.some.injEq] at h
    subst h
    rename_i q0_ q1_ q2_
    obtain ⟨p0, p1, _⟩ := ho
    exact EX.of (rnext_tree q0_ q1_ q2_) (rnext_holds q0_ q1_ q2_ p0 p1)
  · cases h
def rpositions_res (T : Int) (M : Int) (s : Int) (l : List (List Int)) (e : Int) : CRes := ⟨[decide (crE (wValid T M) s l e = 0), fewB s l e], .tup [.cel (.row 1), .cel (.bool (true))], [.ints .i64 (eL T M s (posOf s l e))]⟩
def rpositions_go : List TV → List RowA → List (List CV) → Option CRes := fun args rows caps =>
  match args, rows, caps with
  | [.agg [.int .i64 T, .int .i64 M], .agg [.int .i64 s, .row 0], .cel (.int .i64 e)], [.recs [.int .i64, .int .i64] l], [] => some (rpositions_res T M s l e)
  | _, _, _ => none
def rpositions_e : Ent := ⟨72, [.recs [.int .i64, .int .i64] []], rpositions_go⟩
def rpositions_L1_F (T : Int) (M : Int) (s : Int) (l : List (List Int)) (e : Int) (p : Int) (o : List Int) : St := ⟨41, [], [(9, (.one (.cel (.int .i64 p)))), (8, (.one (.cel (.row 1)))), (7, (.one (.cel (.bool Bool.false)))), (6, (.one (.cel .nilS))), (4, (.one (.cel (.ptr 1 0)))), (3, (.one (.cel (.ptr 0 0)))), (2, (.one (.cel (.int .i64 e))))], [[(.int .i64 T), (.int .i64 M)], [(.int .i64 s), (.row 0)]], [⟨(.recs [.int .i64, .int .i64] l), none⟩, ⟨(.ints .i64 o), some 3⟩], 0⟩
def rpositions_L1_I (T : Int) (M : Int) (s : Int) (l : List (List Int)) (e : Int) (p : Int) (o : List Int) : Prop := (s ≤ p ∧ p ≤ posOf s l e ∧ s + 192 * (o.length : Int) ≤ p + 192) ∧ (isE T M p ∨ (p = s ∧ o = [])) ∧ (o.length ≤ 1000) ∧ (o ++ edg T M (1000 - o.length) (nxA T M p) (posOf s l e) = eL T M s (posOf s l e))
def rpositions_L1_m (T : Int) (M : Int) (s : Int) (l : List (List Int)) (e : Int) (p : Int) (o : List Int) : Nat := (posOf s l e - p).toNat
def rpositions_L1_N (T : Int) (M : Int) (s : Int) (l : List (List Int)) (e : Int) (p' : Int) (o' : List Int) (st_ : St) : Prop := getI st_ 9 fun p => getR st_ 8 fun o => rpositions_L1_I T M s l e p o ∧ rpositions_L1_m T M s l e p o < rpositions_L1_m T M s l e p' o' ∧ SubA st_ (rpositions_L1_F T M s l e p o)
def rpositions_L1_E (T : Int) (M : Int) (s : Int) (l : List (List Int)) (e : Int) (st_ : St) : Prop := getI st_ 9 fun p => getR st_ 8 fun o => rpositions_L1_I T M s l e p o ∧ SubA st_ (rpositions_L1_F T M s l e p o)
def rpositions_L1_S1 (T : Int) (M : Int) (s : Int) (l : List (List Int)) (e : Int) : St := ⟨41, [], [(9, (.one (.cel (.int .i64 s)))), (13, (.one (.cel (.int .i64 s)))), (12, (.one (.cel (.ptr 1 0)))), (8, (.one (.cel .nilS))), (7, (.one (.cel (.bool Bool.false)))), (6, (.one (.cel .nilS))), (4, (.one (.cel (.ptr 1 0)))), (3, (.one (.cel (.ptr 0 0)))), (0, (.one (.agg [(.int .i64 T), (.int .i64 M)]))), (1, (.one (.agg [(.int .i64 s), (.row 0)]))), (2, (.one (.cel (.int .i64 e))))], [[(.int .i64 T), (.int .i64 M)], [(.int .i64 s), (.row 0)]], [⟨(.recs [.int .i64, .int .i64] l), none⟩], 0⟩
def rpositions_L1_T (T : Int) (M : Int) (s : Int) (l : List (List Int)) (e : Int) (p : Int) (o : List Int) : Prop := (cnd (wValid T M)
  (cnd (isT p)
    (cnd (mValid s l)
      (cnd ((!(decide ((Prod.snd (tmOf s l (nxA T M p))) = (0 : Int)))) || (decide (e < (Prod.fst (tmOf s l (nxA T M p))))))
        ((True ∧ (Bool.true = Bool.true)) ∧ ((o = (eL T M s (posOf s l e))) ∧ True))
        (cnd (decide ((((List.length o) : Nat) : Int) = (1000 : Int)))
          ((True ∧ (Bool.false = Bool.true)) ∧ (((eL T M s (posOf s l e)) = ([] : List Int)) ∧ True))
          (cnd (decide ((List.length (o ++ [(nxA T M p)])) ≤ 4294967296))
            ((rpositions_L1_I T M s l e (nxA T M p) (o ++ [(nxA T M p)])) ∧ (((rpositions_L1_m T M s l e (nxA T M p) (o ++ [(nxA T M p)])) < (rpositions_L1_m T M s l e p o)) ∧ (((nxA T M p) = (nxA T M p)) ∧ (True ∧ ((Bool.false = Bool.false) ∧ (True ∧ (True ∧ (True ∧ ((e = e) ∧ (((T = T) ∧ (M = M)) ∧ (((s = s) ∧ True) ∧ ((l = l) ∧ (((o ++ [(nxA T M p)]) = (o ++ [(nxA T M p)])) ∧ True)))))))))))))
            False)))
      False)
    False)
  False)
set_option maxRecDepth 100000 in
theorem rpositions_L1_tree (T : Int) (M : Int) (s : Int) (l : List (List Int)) (e : Int) (p : Int) (o : List Int) : rpositions_L1_T T M s l e p o = ex Try.prog (conOf [rnext_e, rtime_e]) (subC (bodyOf Try.f72) [1, 1, 1, 0, 0]) (nextE (rpositions_L1_N T M s l e p o) (kont Try.prog (conOf [rnext_e, rtime_e]) (bodyOf Try.f72) [1, 1, 1, 0] (retPost Try.prog Try.f72 1 (rpositions_res T M s l e)))) (rpositions_L1_F T M s l e p o) := by kernel_rfl
set_option maxRecDepth 100000 in
theorem rpositions_L1_round (T : Int) (M : Int) (s : Int) (l : List (List Int)) (e : Int) (p : Int) (o : List Int) (p0 : (decide (crE (wValid T M) s l e = 0)) = true) (p1 : (fewB s l e) = true) (hI_L1 : rpositions_L1_I T M s l e p o) : rpositions_L1_T T M s l e p o := by
  obtain ⟨⟨a1, a2, a3⟩, a4, a5, a6⟩ := hI_L1
  have z : crE (wValid T M) s l e = 0 := by simpa using p0
  obtain ⟨f1, f2, f3, f4, f5, f6, f7, f8, _⟩ := cr_facts z p1
  obtain ⟨n1, n2, n3, n4, _⟩ := nx_bd (T := T) (M := M) (p := p) f1 (by omega)
  have hF : ∀ (q : Int) (w : List Int), s ≤ q ∧ q ≤ posOf s l e ∧ s + 192 * (w.length : Int) ≤ q + 192 → isE T M q → w.length ≤ 1000 → w ++ edg T M (1000 - w.length) (nxA T M q) (posOf s l e) = eL T M s (posOf s l e) → rpositions_L1_I T M s l e q w := fun q w h1 h2 h3 h4 => ⟨h1, .inl h2, h3, h4⟩
  have hμ : ∀ (q : Int) (w : List Int), p < q → q ≤ posOf s l e → rpositions_L1_m T M s l e q w < rpositions_L1_m T M s l e p o := fun q w h1 h2 => by unfold rpositions_L1_m; omega
  obtain ⟨k1, k2, k3, k4⟩ := tm_key (p := nxA T M p) f2
  have hmono := way_more l 0 e (1099511627776 - e) (mV_iff.1 f2).2.2 f3.1 (by omega)
  rw [show e + (1099511627776 - e) = 1099511627776 by omega] at hmono
  unfold rpositions_L1_T
  rw [f1, isT_iff.2 (show 0 ≤ p ∧ p ≤ 1099511627776 by omega), f2]
  have hol : (o.length : Int) ≤ 481 := by omega
  by_cases hn : nxA T M p ≤ posOf s l e
  · have h0 : (tmOf s l (nxA T M p)).2 = 0 := k3.2 (by omega)
    obtain ⟨m1, m2, m3⟩ := k4 h0
    have hle := (m3 e f3.1).1 (by omega)
    have hlen : (o ++ [nxA T M p]).length = o.length + 1 := by simp
    rw [decide_eq_true h0, decide_eq_false (show ¬ e < (tmOf s l (nxA T M p)).1 by omega), decide_eq_false (show ¬ (o.length : Int) = 1000 by omega), decide_eq_true (show (o ++ [nxA T M p]).length ≤ 4294967296 by omega)]
    refine ⟨hF _ _ ⟨by omega, hn, ?_⟩ n3 (by omega) ?_, hμ _ _ (by omega) hn, by simp⟩
    · rw [hlen]
      push_cast
      rcases a4 with h | ⟨h, h'⟩
      · have := n4 h; omega
      · rw [h']; simp; omega
    · rw [← a6, hlen, show 1000 - o.length = (1000 - (o.length + 1)) + 1 by omega, edg, if_pos hn, List.append_assoc]
      rfl
  · have he : edg T M (1000 - o.length) (nxA T M p) (posOf s l e) = [] := by
      cases 1000 - o.length with
      | zero => rfl
      | succ n => rw [edg, if_neg hn]
    rw [he, List.append_nil] at a6
    have hj : (!decide ((tmOf s l (nxA T M p)).2 = 0) || decide (e < (tmOf s l (nxA T M p)).1)) = true := by
      by_cases h0 : (tmOf s l (nxA T M p)).2 = 0
      · have := ((k4 h0).2.2 e f3.1)
        rw [decide_eq_true (show e < (tmOf s l (nxA T M p)).1 by omega), Bool.or_true]
      · rw [decide_eq_false h0]; rfl
    rw [hj]
    exact ⟨⟨trivial, rfl⟩, a6, trivial⟩
set_option maxRecDepth 100000 in
theorem rpositions_L1_entry1 (T : Int) (M : Int) (s : Int) (l : List (List Int)) (e : Int) : (((rpositions_L1_I T M s l e s ([] : List Int)) ∧ ((s = s) ∧ (True ∧ ((Bool.false = Bool.false) ∧ (True ∧ (True ∧ (True ∧ ((e = e) ∧ (((T = T) ∧ (M = M)) ∧ (((s = s) ∧ True) ∧ ((l = l) ∧ ((([] : List Int) = ([] : List Int)) ∧ True))))))))))))) = rpositions_L1_E T M s l e (rpositions_L1_S1 T M s l e) := by kernel_rfl
theorem rpositions_L1_1 (T : Int) (M : Int) (s : Int) (l : List (List Int)) (e : Int) (p0 : (decide (crE (wValid T M) s l e = 0)) = true) (p1 : (fewB s l e) = true) (h : ((rpositions_L1_I T M s l e s ([] : List Int)) ∧ ((s = s) ∧ (True ∧ ((Bool.false = Bool.false) ∧ (True ∧ (True ∧ (True ∧ ((e = e) ∧ (((T = T) ∧ (M = M)) ∧ (((s = s) ∧ True) ∧ ((l = l) ∧ ((([] : List Int) = ([] : List Int)) ∧ True))))))))))))) : LoopP (ex Try.prog (conOf [rnext_e, rtime_e]) (subC (bodyOf Try.f72) [1, 1, 1, 0, 0])) (kont Try.prog (conOf [rnext_e, rtime_e]) (bodyOf Try.f72) [1, 1, 1, 0] (retPost Try.prog Try.f72 1 (rpositions_res T M s l e))) (rpositions_L1_S1 T M s l e) := by
  have hE : rpositions_L1_E T M s l e (rpositions_L1_S1 T M s l e) := Eq.mp (rpositions_L1_entry1 T M s l e) h
  unfold rpositions_L1_E at hE
  obtain ⟨p, hE⟩ := getI_of hE
  obtain ⟨o, hE⟩ := getR_of hE
  refine loop_of (α := (Int) × (List Int)) (fun xx_ => rpositions_L1_F T M s l e xx_.1 xx_.2) (fun xx_ => rpositions_L1_I T M s l e xx_.1 xx_.2) (fun xx_ => rpositions_L1_m T M s l e xx_.1 xx_.2) (fun xx_ => rpositions_L1_N T M s l e xx_.1 xx_.2) (fun xx_ => rpositions_L1_T T M s l e xx_.1 xx_.2) (fun xx_ s_ h => ?_) ⟨⟨p, o⟩, hE⟩ (fun xx_ => rpositions_L1_tree T M s l e xx_.1 xx_.2) (fun xx_ hI => rpositions_L1_round T M s l e xx_.1 xx_.2 p0 p1 hI)
  unfold rpositions_L1_N at h
  obtain ⟨p, h⟩ := getI_of h
  obtain ⟨o, h⟩ := getR_of h
  exact ⟨⟨p, o⟩, h⟩
set_option maxRecDepth 100000 in
theorem rpositions_tree (T : Int) (M : Int) (s : Int) (l : List (List Int)) (e : Int) : ((LoopP (ex Try.prog (conOf [rnext_e, rtime_e]) (subC (bodyOf Try.f72) [1, 1, 1, 0, 0])) (kont Try.prog (conOf [rnext_e, rtime_e]) (bodyOf Try.f72) [1, 1, 1, 0] (retPost Try.prog Try.f72 1 (rpositions_res T M s l e))) (rpositions_L1_S1 T M s l e))) = EXD Try.prog (conOf [rnext_e, rtime_e]) Try.f72 [.agg [.int .i64 T, .int .i64 M], .agg [.int .i64 s, .row 0], .cel (.int .i64 e)] [.recs [.int .i64, .int .i64] l] [] (rpositions_res T M s l e) := by kernel_rfl
theorem rpositions_holds (T : Int) (M : Int) (s : Int) (l : List (List Int)) (e : Int) (p0 : (decide (crE (wValid T M) s l e = 0)) = true) (p1 : (fewB s l e) = true) : (LoopP (ex Try.prog (conOf [rnext_e, rtime_e]) (subC (bodyOf Try.f72) [1, 1, 1, 0, 0])) (kont Try.prog (conOf [rnext_e, rtime_e]) (bodyOf Try.f72) [1, 1, 1, 0] (retPost Try.prog Try.f72 1 (rpositions_res T M s l e))) (rpositions_L1_S1 T M s l e)) := by
  have z : crE (wValid T M) s l e = 0 := by simpa using p0
  obtain ⟨f1, f2, f3, f4, f5, f6, f7, f8, _⟩ := cr_facts z p1
  exact rpositions_L1_1 T M s l e p0 p1 ⟨⟨⟨by omega, by omega, by simp; omega⟩, .inr ⟨rfl, rfl⟩, by simp, by simp [eL]⟩, by simp⟩
set_option maxHeartbeats 2000000 in
theorem rpositions_ok : SoundEnt Try.prog rpositions_e := by
  refine ent_of_ex (Γ := (conOf [rnext_e, rtime_e])) (conOf_sound (scons rnext_ok (scons rtime_ok snil))) (by kernel_rfl) Try.func72 (by kernel_rfl) (by kernel_rfl) (fun args rows caps res h ho => ?_)
  change rpositions_go args rows caps = some res at h
  unfold rpositions_go at h
  split at h
  · simp only [Option.some.injEq] at h
    subst h
    rename_i q0_ q1_ q2_ q4_ q3_
    obtain ⟨p0, p1, _⟩ := ho
    exact EX.of (rpositions_tree q0_ q1_ q2_ q3_ q4_) (rpositions_holds q0_ q1_ q2_ q3_ q4_ p0 p1)
  · cases h
def rtimes18_res (s : Int) (l : List (List Int)) (a : List Int) : CRes := ⟨[mValid s l, decide ((a.length : Int) ≤ 1000)], .one (.cel (.row 2)), [.ints .i64 (a.map fun p => (tmOf s l p).1)]⟩
def rtimes18_go : List TV → List RowA → List (List CV) → Option CRes := fun args rows caps =>
  match args, rows, caps with
  | [.agg [.int .i64 s, .row 0], .cel (.row 1)], [.recs [.int .i64, .int .i64] l, .ints .i64 a], [] => some (rtimes18_res s l a)
  | _, _, _ => none
def rtimes18_e : Ent := ⟨73, [.recs [.int .i64, .int .i64] [], .ints .i64 []], rtimes18_go⟩
def rtimes18_L1_F (s : Int) (l : List (List Int)) (a : List Int) (i : Int) (o : List Int) : St := ⟨29, [], [(6, (.one (.cel (.int .i64 i)))), (5, (.one (.cel (.row 2)))), (4, (.one (.cel .nilS))), (2, (.one (.cel (.ptr 0 0)))), (1, (.one (.cel (.row 1))))], [[(.int .i64 s), (.row 0)]], [⟨(.recs [.int .i64, .int .i64] l), none⟩, ⟨(.ints .i64 a), none⟩, ⟨(.ints .i64 o), some 3⟩], 0⟩
def rtimes18_L1_I (s : Int) (l : List (List Int)) (a : List Int) (i : Int) (o : List Int) : Prop := (0 ≤ i ∧ i ≤ a.length) ∧ (o = (a.take i.toNat).map fun p => (tmOf s l p).1)
def rtimes18_L1_m (s : Int) (l : List (List Int)) (a : List Int) (i : Int) (o : List Int) : Nat := (a.length - i).toNat
def rtimes18_L1_N (s : Int) (l : List (List Int)) (a : List Int) (i' : Int) (o' : List Int) (st_ : St) : Prop := getI st_ 6 fun i => getR st_ 5 fun o => rtimes18_L1_I s l a i o ∧ rtimes18_L1_m s l a i o < rtimes18_L1_m s l a i' o' ∧ SubA st_ (rtimes18_L1_F s l a i o)
def rtimes18_L1_E (s : Int) (l : List (List Int)) (a : List Int) (st_ : St) : Prop := getI st_ 6 fun i => getR st_ 5 fun o => rtimes18_L1_I s l a i o ∧ SubA st_ (rtimes18_L1_F s l a i o)
def rtimes18_L1_S1 (s : Int) (l : List (List Int)) (a : List Int) : St := ⟨29, [], [(6, (.one (.cel (.int .i64 (0 : Int))))), (5, (.one (.cel .nilS))), (4, (.one (.cel .nilS))), (2, (.one (.cel (.ptr 0 0)))), (0, (.one (.agg [(.int .i64 s), (.row 0)]))), (1, (.one (.cel (.row 1))))], [[(.int .i64 s), (.row 0)]], [⟨(.recs [.int .i64, .int .i64] l), none⟩, ⟨(.ints .i64 a), none⟩], 0⟩
def rtimes18_L1_T (s : Int) (l : List (List Int)) (a : List Int) (i : Int) (o : List Int) : Prop := (cnd (decide (i < (((List.length a) : Nat) : Int)))
  (cnd (decide ((0 : Int) ≤ i))
    (cnd (decide (i < (((List.length a) : Nat) : Int)))
      (cnd (mValid s l)
        (cnd (decide ((List.length (o ++ [(Prod.fst (tmOf s l (List.getD a (Int.toNat i) (0 : Int))))])) ≤ 4294967296))
          ((rtimes18_L1_I s l a (Go.IntKind.wrap Go.IntKind.i64 (i + (1 : Int))) (o ++ [(Prod.fst (tmOf s l (List.getD a (Int.toNat i) (0 : Int))))])) ∧ (((rtimes18_L1_m s l a (Go.IntKind.wrap Go.IntKind.i64 (i + (1 : Int))) (o ++ [(Prod.fst (tmOf s l (List.getD a (Int.toNat i) (0 : Int))))])) < (rtimes18_L1_m s l a i o)) ∧ (((Go.IntKind.wrap Go.IntKind.i64 (i + (1 : Int))) = (Go.IntKind.wrap Go.IntKind.i64 (i + (1 : Int)))) ∧ (True ∧ (True ∧ (True ∧ (True ∧ (((s = s) ∧ True) ∧ ((l = l) ∧ ((a = a) ∧ (((o ++ [(Prod.fst (tmOf s l (List.getD a (Int.toNat i) (0 : Int))))]) = (o ++ [(Prod.fst (tmOf s l (List.getD a (Int.toNat i) (0 : Int))))])) ∧ True)))))))))))
          False)
        False)
      False)
    False)
  (True ∧ ((o = (List.map (fun p => (Prod.fst (tmOf s l p))) a)) ∧ True)))
set_option maxRecDepth 100000 in
theorem rtimes18_L1_tree (s : Int) (l : List (List Int)) (a : List Int) (i : Int) (o : List Int) : rtimes18_L1_T s l a i o = ex Try.prog (conOf [rtime_e]) (subC (bodyOf Try.f73) [1, 1, 0, 1, 0, 0]) (nextE (rtimes18_L1_N s l a i o) (kont Try.prog (conOf [rtime_e]) (bodyOf Try.f73) [1, 1, 0, 1, 0] (retPost Try.prog Try.f73 2 (rtimes18_res s l a)))) (rtimes18_L1_F s l a i o) := by kernel_rfl
set_option maxRecDepth 100000 in
theorem rtimes18_L1_round (s : Int) (l : List (List Int)) (a : List Int) (i : Int) (o : List Int) (p0 : (mValid s l) = true) (p1 : (decide ((a.length : Int) ≤ 1000)) = true) (hI_L1 : rtimes18_L1_I s l a i o) : rtimes18_L1_T s l a i o := by
  obtain ⟨⟨a1, a2⟩, a3⟩ := hI_L1
  have hlen0 : (a.length : Int) ≤ 1000 := by simpa using p1
  have hF : ∀ (j : Int) (w : List Int), 0 ≤ j ∧ j ≤ (a.length : Int) → w = (a.take j.toNat).map (fun p => (tmOf s l p).1) → rtimes18_L1_I s l a j w := fun j w h1 h2 => ⟨h1, h2⟩
  have hμ : ∀ w, i < (a.length : Int) → rtimes18_L1_m s l a (i + 1) w < rtimes18_L1_m s l a i o := fun w h => by unfold rtimes18_L1_m; omega
  have hlt : o.length = i.toNat := by rw [a3, List.length_map, List.length_take]; omega
  unfold rtimes18_L1_T
  by_cases hi : i < (a.length : Int)
  · have hlen : ∀ r : Int, (o ++ [r]).length = o.length + 1 := fun r => by simp
    rw [decide_eq_true hi, decide_eq_true a1, p0, decide_eq_true (show (o ++ [(tmOf s l (a.getD i.toNat 0)).1]).length ≤ 4294967296 by rw [hlen]; omega), w64 (n := i + 1) (by omega) (by omega)]
    refine ⟨hF _ _ ⟨by omega, by omega⟩ ?_, hμ _ hi, by simp⟩
    rw [show (i + 1).toNat = i.toNat + 1 by omega, List.take_add_one, List.getElem?_eq_getElem (by omega), List.map_append, ← a3, List.getD_eq_getElem?_getD, List.getElem?_eq_getElem (by omega)]
    rfl
  · rw [decide_eq_false hi]
    rw [List.take_of_length_le (by omega)] at a3
    exact ⟨trivial, a3, trivial⟩
set_option maxRecDepth 100000 in
theorem rtimes18_L1_entry1 (s : Int) (l : List (List Int)) (a : List Int) : (((rtimes18_L1_I s l a (0 : Int) ([] : List Int)) ∧ (((0 : Int) = (0 : Int)) ∧ (True ∧ (True ∧ (True ∧ (True ∧ (((s = s) ∧ True) ∧ ((l = l) ∧ ((a = a) ∧ ((([] : List Int) = ([] : List Int)) ∧ True))))))))))) = rtimes18_L1_E s l a (rtimes18_L1_S1 s l a) := by kernel_rfl
theorem rtimes18_L1_1 (s : Int) (l : List (List Int)) (a : List Int) (p0 : (mValid s l) = true) (p1 : (decide ((a.length : Int) ≤ 1000)) = true) (h : ((rtimes18_L1_I s l a (0 : Int) ([] : List Int)) ∧ (((0 : Int) = (0 : Int)) ∧ (True ∧ (True ∧ (True ∧ (True ∧ (((s = s) ∧ True) ∧ ((l = l) ∧ ((a = a) ∧ ((([] : List Int) = ([] : List Int)) ∧ True))))))))))) : LoopP (ex Try.prog (conOf [rtime_e]) (subC (bodyOf Try.f73) [1, 1, 0, 1, 0, 0])) (kont Try.prog (conOf [rtime_e]) (bodyOf Try.f73) [1, 1, 0, 1, 0] (retPost Try.prog Try.f73 2 (rtimes18_res s l a))) (rtimes18_L1_S1 s l a) := by
  have hE : rtimes18_L1_E s l a (rtimes18_L1_S1 s l a) := Eq.mp (rtimes18_L1_entry1 s l a) h
  unfold rtimes18_L1_E at hE
  obtain ⟨i, hE⟩ := getI_of hE
  obtain ⟨o, hE⟩ := getR_of hE
  refine loop_of (α := (Int) × (List Int)) (fun xx_ => rtimes18_L1_F s l a xx_.1 xx_.2) (fun xx_ => rtimes18_L1_I s l a xx_.1 xx_.2) (fun xx_ => rtimes18_L1_m s l a xx_.1 xx_.2) (fun xx_ => rtimes18_L1_N s l a xx_.1 xx_.2) (fun xx_ => rtimes18_L1_T s l a xx_.1 xx_.2) (fun xx_ s_ h => ?_) ⟨⟨i, o⟩, hE⟩ (fun xx_ => rtimes18_L1_tree s l a xx_.1 xx_.2) (fun xx_ hI => rtimes18_L1_round s l a xx_.1 xx_.2 p0 p1 hI)
  unfold rtimes18_L1_N at h
  obtain ⟨i, h⟩ := getI_of h
  obtain ⟨o, h⟩ := getR_of h
  exact ⟨⟨i, o⟩, h⟩
set_option maxRecDepth 100000 in
theorem rtimes18_tree (s : Int) (l : List (List Int)) (a : List Int) : ((LoopP (ex Try.prog (conOf [rtime_e]) (subC (bodyOf Try.f73) [1, 1, 0, 1, 0, 0])) (kont Try.prog (conOf [rtime_e]) (bodyOf Try.f73) [1, 1, 0, 1, 0] (retPost Try.prog Try.f73 2 (rtimes18_res s l a))) (rtimes18_L1_S1 s l a))) = EXD Try.prog (conOf [rtime_e]) Try.f73 [.agg [.int .i64 s, .row 0], .cel (.row 1)] [.recs [.int .i64, .int .i64] l, .ints .i64 a] [] (rtimes18_res s l a) := by kernel_rfl
theorem rtimes18_holds (s : Int) (l : List (List Int)) (a : List Int) (p0 : (mValid s l) = true) (p1 : (decide ((a.length : Int) ≤ 1000)) = true) : (LoopP (ex Try.prog (conOf [rtime_e]) (subC (bodyOf Try.f73) [1, 1, 0, 1, 0, 0])) (kont Try.prog (conOf [rtime_e]) (bodyOf Try.f73) [1, 1, 0, 1, 0] (retPost Try.prog Try.f73 2 (rtimes18_res s l a))) (rtimes18_L1_S1 s l a)) := by
  exact rtimes18_L1_1 s l a p0 p1 ⟨⟨⟨by omega, by omega⟩, by simp⟩, by simp⟩
set_option maxHeartbeats 2000000 in
theorem rtimes18_ok : SoundEnt Try.prog rtimes18_e := by
  refine ent_of_ex (Γ := (conOf [rtime_e])) (conOf_sound (scons rtime_ok snil)) (by kernel_rfl) Try.func73 (by kernel_rfl) (by kernel_rfl) (fun args rows caps res h ho => ?_)
  change rtimes18_go args rows caps = some res at h
  unfold rtimes18_go at h
  split at h
  · simp only [Option.some.injEq] at h
    subst h
    rename_i q0_ q1_ q2_
    obtain ⟨p0, p1, _⟩ := ho
    exact EX.of (rtimes18_tree q0_ q1_ q2_) (rtimes18_holds q0_ q1_ q2_ p0 p1)
  · cases h
def rcrank_res (T : Int) (M : Int) (s : Int) (l : List (List Int)) (e : Int) : CRes := ⟨[fewB s l e], .tup [.cel (.row 1), .cel (.int .i64 (crE (wValid T M) s l e))], [.ints .i64 (crT T M s l e)]⟩
def rcrank_go : List TV → List RowA → List (List CV) → Option CRes := fun args rows caps =>
  match args, rows, caps with
  | [.agg [.int .i64 T, .int .i64 M], .agg [.int .i64 s, .row 0], .cel (.int .i64 e)], [.recs [.int .i64, .int .i64] l], [] => some (rcrank_res T M s l e)
  | _, _, _ => none
def rcrank_e : Ent := ⟨30, [.recs [.int .i64, .int .i64] []], rcrank_go⟩
set_option maxRecDepth 100000 in
theorem rcrank_tree (T : Int) (M : Int) (s : Int) (l : List (List Int)) (e : Int) : ((cnd ((!(wValid T M)) || (!(mValid s l)))
  ((True ∧ ((1 : Int) = (crE (wValid T M) s l e))) ∧ (((crT T M s l e) = ([] : List Int)) ∧ True))
  (cnd (!(isT e))
    ((True ∧ ((2 : Int) = (crE (wValid T M) s l e))) ∧ (((crT T M s l e) = ([] : List Int)) ∧ True))
    (cnd (decide ((crE (wValid T M) s l e) = (0 : Int)))
      (cnd (fewB s l e)
        (cnd (mValid s l)
          (cnd (decide ((((List.length (eL T M s (posOf s l e))) : Nat) : Int) ≤ (1000 : Int)))
            ((True ∧ ((0 : Int) = (crE (wValid T M) s l e))) ∧ (((List.map (fun p => (Prod.fst (tmOf s l p))) (eL T M s (posOf s l e))) = (crT T M s l e)) ∧ True))
            False)
          False)
        False)
      False)))) = EXD Try.prog (conOf [rwvalid_e, rvalid_e, rtime18_e, rpositions_e, rtimes18_e]) Try.f30 [.agg [.int .i64 T, .int .i64 M], .agg [.int .i64 s, .row 0], .cel (.int .i64 e)] [.recs [.int .i64, .int .i64] l] [] (rcrank_res T M s l e) := by kernel_rfl
theorem rcrank_holds (T : Int) (M : Int) (s : Int) (l : List (List Int)) (e : Int) (p0 : (fewB s l e) = true) : (cnd ((!(wValid T M)) || (!(mValid s l)))
  ((True ∧ ((1 : Int) = (crE (wValid T M) s l e))) ∧ (((crT T M s l e) = ([] : List Int)) ∧ True))
  (cnd (!(isT e))
    ((True ∧ ((2 : Int) = (crE (wValid T M) s l e))) ∧ (((crT T M s l e) = ([] : List Int)) ∧ True))
    (cnd (decide ((crE (wValid T M) s l e) = (0 : Int)))
      (cnd (fewB s l e)
        (cnd (mValid s l)
          (cnd (decide ((((List.length (eL T M s (posOf s l e))) : Nat) : Int) ≤ (1000 : Int)))
            ((True ∧ ((0 : Int) = (crE (wValid T M) s l e))) ∧ (((List.map (fun p => (Prod.fst (tmOf s l p))) (eL T M s (posOf s l e))) = (crT T M s l e)) ∧ True))
            False)
          False)
        False)
      False))) := by
  cases h1 : wValid T M with
  | false => simp [cnd, crE, crT, crP, h1]
  | true =>
    cases h2 : mValid s l with
    | false => simp [cnd, crE, crT, crP, h1, h2]
    | true =>
      cases h3 : isT e with
      | false => simp [cnd, crE, crT, crP, h1, h2, h3]
      | true =>
        have z : crE true s l e = 0 := by simp [crE, h2, h3]
        have z' : crE (wValid T M) s l e = 0 := by rw [h1]; exact z
        obtain ⟨f1, f2, f3, f4, f5, f6, f7, f8, _⟩ := cr_facts z' p0
        obtain ⟨_, _, e3⟩ := eL_spec (b := posOf s l e) f1 f4.1
        have e3 := e3 f7
        have hT : crT T M s l e = (eL T M s (posOf s l e)).map fun p => (tmOf s l p).1 := by unfold crT crP; rw [if_pos z']
        rw [z, decide_eq_true (show ((eL T M s (posOf s l e)).length : Int) ≤ 1000 by omega), p0, hT]
        simp [cnd]
set_option maxHeartbeats 2000000 in
theorem rcrank_ok : SoundEnt Try.prog rcrank_e := by
  refine ent_of_ex (Γ := (conOf [rwvalid_e, rvalid_e, rtime18_e, rpositions_e, rtimes18_e])) (conOf_sound (scons rwvalid_ok (scons rvalid_ok (scons rtime18_ok (scons rpositions_ok (scons rtimes18_ok snil)))))) (by kernel_rfl) Try.func30 (by kernel_rfl) (by kernel_rfl) (fun args rows caps res h ho => ?_)
  change rcrank_go args rows caps = some res at h
  unfold rcrank_go at h
  split at h
  · simp only [Option.some.injEq] at h
    subst h
    rename_i q0_ q1_ q2_ q4_ q3_
    obtain ⟨p0, _⟩ := ho
    exact EX.of (rcrank_tree q0_ q1_ q2_ q3_ q4_) (rcrank_holds q0_ q1_ q2_ q3_ q4_ p0)
  · cases h
end Go.Proofs.Ythfliohfkhnpiaa

