/- The clock between teeth: what its functions come to. -/
import Derived.Test.YtfkoopimppkkfaaAd
import Derived.Test.YtfkoopimppkkfaaOr
namespace Go.Proofs.Ytfkoopimppkkfaa
set_option linter.unusedVariables false
set_option linter.unusedSimpArgs false
open Go.RowKit

theorem gmin_eq (a b : Int) : gmin a b = min a b := by unfold gmin; omega
theorem gmax_eq (a b : Int) : gmax a b = max a b := by unfold gmax; omega
theorem mul_bd {a b A B : Int} (h0 : 0 ≤ a) (h1 : a ≤ A) (h2 : 0 ≤ b) (h3 : b ≤ B) : 0 ≤ a * b ∧ a * b ≤ A * B := ⟨Int.mul_nonneg h0 h2, Int.mul_le_mul h1 h3 h2 (by omega)⟩
def isT (t : Int) : Bool := decide (0 ≤ t) && decide (t ≤ 1099511627776)
theorem isT_iff {t : Int} : isT t = true ↔ 0 ≤ t ∧ t ≤ 1099511627776 := by simp [isT]
def wValid (T M : Int) : Bool := (decide (M = 1) || decide (M = 2)) && decide (12 ≤ T) && decide (T ≤ 120) && decide (8 * M ≤ T) && decide (23040 % T = 0)
theorem wValid_iff {T M : Int} : wValid T M = true ↔ (M = 1 ∨ M = 2) ∧ 12 ≤ T ∧ T ≤ 120 ∧ 8 * M ≤ T ∧ 23040 % T = 0 := by simp [wValid, and_assoc]
def spc (T M : Int) : Int := if wValid T M then 23040 / T else 0
def tth (T M : Int) : Int := if wValid T M then T - M else 0
theorem spc_bd {T M : Int} (h : wValid T M = true) : 192 ≤ spc T M ∧ spc T M ≤ 1920 ∧ spc T M * T = 23040 ∧ spc T M = 23040 / T := by
  obtain ⟨_, h1, h2, _, h3⟩ := wValid_iff.1 h
  unfold spc
  rw [if_pos h]
  have h4 : 23040 / T * T = 23040 := Int.ediv_mul_cancel (Int.dvd_of_emod_eq_zero h3)
  refine ⟨?_, ?_, h4, rfl⟩
  · refine Int.le_ediv_of_mul_le (by omega) (by omega)
  · refine Int.ediv_le_of_le_mul (by omega) (by omega)
def cKnown (a0 an pe sp ah : Int) : Bool := isT a0 && decide (0 ≤ an) && decide (an < 46080) && decide (1 ≤ pe) && decide (pe ≤ 1073741824) && decide (192 ≤ sp) && decide (sp ≤ 1920) && (decide (ah = sp) || decide (ah = 2 * sp) || decide (ah = 3 * sp))
theorem cKnown_iff {a0 an pe sp ah : Int} : cKnown a0 an pe sp ah = true ↔ (0 ≤ a0 ∧ a0 ≤ 1099511627776) ∧ 0 ≤ an ∧ an < 46080 ∧ 1 ≤ pe ∧ pe ≤ 1073741824 ∧ 192 ≤ sp ∧ sp ≤ 1920 ∧ ((ah = sp ∨ ah = 2 * sp) ∨ ah = 3 * sp) := by simp [cKnown, isT, and_assoc]
def cValid (v : Bool) (a0 an pe sp ah : Int) : Bool := if v then cKnown a0 an pe sp ah else decide (a0 = 0) && decide (an = 0) && decide (pe = 0) && decide (sp = 0) && decide (ah = 0)
def cErr (v : Bool) (a0 an pe sp ah : Int) : Int := if cValid v a0 an pe sp ah then (if v then 0 else 6) else 1
theorem cErr_zero {v : Bool} {a0 an pe sp ah : Int} : cErr v a0 an pe sp ah = 0 ↔ v = true ∧ cKnown a0 an pe sp ah = true := by
  unfold cErr cValid
  cases v with
  | true => simp
  | false => simp; split <;> simp
def upq (a b : Int) : Int := -((-a) / b)
theorem upq_bd {a b : Int} (h0 : 0 ≤ a) (h1 : 1 ≤ b) : 0 ≤ upq a b ∧ upq a b ≤ a := by
  unfold upq
  rw [neg_quo a b h1]
  have h2 := quo_pos h0 h1
  have h3 := Int.emod_add_mul_ediv a b
  have h4 : a / b ≤ b * (a / b) := by
    have := Int.mul_le_mul_of_nonneg_right h1 h2.1
    omega
  split <;> omega
def atErr (v : Bool) (a0 an pe sp ah t : Int) : Int := if cErr v a0 an pe sp ah = 0 then (if isT t then (if t < a0 then 16 else 0) else 2) else cErr v a0 an pe sp ah
def atA (v : Bool) (a0 an pe sp ah t : Int) : Int := if atErr v a0 an pe sp ah t = 0 then (an + min ah ((t - a0) * sp / pe)) % 46080 else 0
def tmD (an a : Int) : Int := (a - an + 46080) % 46080
def tmErr (v : Bool) (a0 an pe sp ah a : Int) : Int := if cErr v a0 an pe sp ah = 0 then (if 0 ≤ a ∧ a < 46080 then (if ah ≤ tmD an a then 7 else (if isT (a0 + upq (tmD an a * pe) sp) then 0 else 2)) else 2) else cErr v a0 an pe sp ah
def tmT (v : Bool) (a0 an pe sp ah a : Int) : Int := if tmErr v a0 an pe sp ah a = 0 then a0 + upq (tmD an a * pe) sp else 0
def rpmOf (v : Bool) (a0 an pe sp ah : Int) : Int := if cErr v a0 an pe sp ah = 0 then 60000000 * sp / (pe * 23040) else 0
def rcA (v : Bool) (a0 an pe sp ah : Int) : Int := if cErr v a0 an pe sp ah = 0 then an else 0
def rcB (v : Bool) (a0 an pe sp ah : Int) : Int := if cErr v a0 an pe sp ah = 0 then (an + ah) % 46080 else 0
def tkErr (v : Bool) (a0 an pe sp ah u : Int) : Int := if cErr v a0 an pe sp ah = 0 then (if 0 ≤ u ∧ u ≤ 46080 then 0 else 2) else cErr v a0 an pe sp ah
def tkT (v : Bool) (a0 an pe sp ah u : Int) : Int := if tkErr v a0 an pe sp ah u = 0 then upq (u * pe) sp else 0
def wvalid_res (T : Int) (M : Int) : CRes := ⟨[], .one (.cel (.bool (wValid T M))), []⟩
def wvalid_go : List TV → List RowA → List (List CV) → Option CRes := fun args rows caps =>
  match args, rows, caps with
  | [.agg [.int .i64 T, .int .i64 M]], [], [] => some (wvalid_res T M)
  | _, _, _ => none
def wvalid_e : Ent := ⟨36, [], wvalid_go⟩
set_option maxRecDepth 100000 in
theorem wvalid_tree (T : Int) (M : Int) : ((cnd ((!((((((decide (M = (1 : Int))) || (decide (M = (2 : Int)))) && (decide ((12 : Int) ≤ T))) && (decide (T ≤ (120 : Int)))) && (decide ((Go.IntKind.wrap Go.IntKind.i64 ((8 : Int) * M)) ≤ T))) == Bool.true)) || (decide (T ≠ (0 : Int))))
  (((((((decide (M = (1 : Int))) || (decide (M = (2 : Int)))) && (decide ((12 : Int) ≤ T))) && (decide (T ≤ (120 : Int)))) && (decide ((Go.IntKind.wrap Go.IntKind.i64 ((8 : Int) * M)) ≤ T))) && (decide ((Int.tmod (23040 : Int) T) = (0 : Int)))) = (wValid T M))
  False)) = EXD Try.prog (conOf []) Try.f36 [.agg [.int .i64 T, .int .i64 M]] [] [] (wvalid_res T M) := by kernel_rfl
theorem wvalid_holds (T : Int) (M : Int)  : (cnd ((!((((((decide (M = (1 : Int))) || (decide (M = (2 : Int)))) && (decide ((12 : Int) ≤ T))) && (decide (T ≤ (120 : Int)))) && (decide ((Go.IntKind.wrap Go.IntKind.i64 ((8 : Int) * M)) ≤ T))) == Bool.true)) || (decide (T ≠ (0 : Int))))
  (((((((decide (M = (1 : Int))) || (decide (M = (2 : Int)))) && (decide ((12 : Int) ≤ T))) && (decide (T ≤ (120 : Int)))) && (decide ((Go.IntKind.wrap Go.IntKind.i64 ((8 : Int) * M)) ≤ T))) && (decide ((Int.tmod (23040 : Int) T) = (0 : Int)))) = (wValid T M))
  False) := by
  by_cases hM : M = 1 ∨ M = 2
  · rw [w64 (n := 8 * M) (by omega) (by omega)]
    by_cases hT : 12 ≤ T
    · have e : Int.tmod 23040 T = 23040 % T := tmod_pos (by decide)
      have h0 : decide (T ≠ 0) = true := by simp; omega
      rw [e, h0, Bool.or_true]
      simp only [cnd, wValid]
    · have h0 : decide (12 ≤ T) = false := by simpa using hT
      rw [h0]
      simp [cnd, wValid, h0]
  · have h0 : (decide (M = 1) || decide (M = 2)) = false := by simp; omega
    rw [h0]
    simp [cnd, wValid, h0]
set_option maxHeartbeats 2000000 in
theorem wvalid_ok : SoundEnt Try.prog wvalid_e := by
  refine ent_of_ex (Γ := (conOf [])) (conOf_sound snil) (by kernel_rfl) Try.func36 (by kernel_rfl) (by kernel_rfl) (fun args rows caps res h ho => ?_)
  change wvalid_go args rows caps = some res at h
  unfold wvalid_go at h
  split at h
  · simp only [Option.some.injEq] at h
    subst h
    rename_i q0_ q1_
    skip
    exact EX.of (wvalid_tree q0_ q1_) (wvalid_holds q0_ q1_)
  · cases h
def wspace_res (T : Int) (M : Int) : CRes := ⟨[], .one (.cel (.int .i64 (spc T M))), []⟩
def wspace_go : List TV → List RowA → List (List CV) → Option CRes := fun args rows caps =>
  match args, rows, caps with
  | [.agg [.int .i64 T, .int .i64 M]], [], [] => some (wspace_res T M)
  | _, _, _ => none
def wspace_e : Ent := ⟨37, [], wspace_go⟩
set_option maxRecDepth 100000 in
theorem wspace_tree (T : Int) (M : Int) : ((cnd (!(wValid T M))
  ((0 : Int) = (spc T M))
  (cnd (decide (T ≠ (0 : Int)))
    ((Go.IntKind.wrap Go.IntKind.i64 (Int.tdiv (23040 : Int) T)) = (spc T M))
    False))) = EXD Try.prog (conOf [wvalid_e]) Try.f37 [.agg [.int .i64 T, .int .i64 M]] [] [] (wspace_res T M) := by kernel_rfl
theorem wspace_holds (T : Int) (M : Int)  : (cnd (!(wValid T M))
  ((0 : Int) = (spc T M))
  (cnd (decide (T ≠ (0 : Int)))
    ((Go.IntKind.wrap Go.IntKind.i64 (Int.tdiv (23040 : Int) T)) = (spc T M))
    False)) := by
  unfold spc
  by_cases h : wValid T M = true
  · obtain ⟨b0, b1, b2, b3⟩ := spc_bd h
    have hh := wValid_iff.1 h
    have h0 : decide (T ≠ 0) = true := by simp; omega
    have e : Int.tdiv 23040 T = 23040 / T := tdiv_pos (by decide)
    simp only [h, Bool.not_true, cnd, h0, e, if_true]
    rw [← b3, w64 (by omega) (by omega)]
  · have h : wValid T M = false := by simpa using h
    simp [h, cnd]
set_option maxHeartbeats 2000000 in
theorem wspace_ok : SoundEnt Try.prog wspace_e := by
  refine ent_of_ex (Γ := (conOf [wvalid_e])) (conOf_sound (scons wvalid_ok snil)) (by kernel_rfl) Try.func37 (by kernel_rfl) (by kernel_rfl) (fun args rows caps res h ho => ?_)
  change wspace_go args rows caps = some res at h
  unfold wspace_go at h
  split at h
  · simp only [Option.some.injEq] at h
    subst h
    rename_i q0_ q1_
    skip
    exact EX.of (wspace_tree q0_ q1_) (wspace_holds q0_ q1_)
  · cases h
def wteeth_res (T : Int) (M : Int) : CRes := ⟨[], .one (.cel (.int .i64 (tth T M))), []⟩
def wteeth_go : List TV → List RowA → List (List CV) → Option CRes := fun args rows caps =>
  match args, rows, caps with
  | [.agg [.int .i64 T, .int .i64 M]], [], [] => some (wteeth_res T M)
  | _, _, _ => none
def wteeth_e : Ent := ⟨38, [], wteeth_go⟩
set_option maxRecDepth 100000 in
theorem wteeth_tree (T : Int) (M : Int) : ((cnd (!(wValid T M))
  ((0 : Int) = (tth T M))
  ((Go.IntKind.wrap Go.IntKind.i64 (T - M)) = (tth T M)))) = EXD Try.prog (conOf [wvalid_e]) Try.f38 [.agg [.int .i64 T, .int .i64 M]] [] [] (wteeth_res T M) := by kernel_rfl
theorem wteeth_holds (T : Int) (M : Int)  : (cnd (!(wValid T M))
  ((0 : Int) = (tth T M))
  ((Go.IntKind.wrap Go.IntKind.i64 (T - M)) = (tth T M))) := by
  unfold tth
  by_cases h : wValid T M = true
  · have hh := wValid_iff.1 h
    simp only [h, Bool.not_true, cnd, if_true]
    rw [w64 (by omega) (by omega)]
  · have h : wValid T M = false := by simpa using h
    simp [h, cnd]
set_option maxHeartbeats 2000000 in
theorem wteeth_ok : SoundEnt Try.prog wteeth_e := by
  refine ent_of_ex (Γ := (conOf [wvalid_e])) (conOf_sound (scons wvalid_ok snil)) (by kernel_rfl) Try.func38 (by kernel_rfl) (by kernel_rfl) (fun args rows caps res h ho => ?_)
  change wteeth_go args rows caps = some res at h
  unfold wteeth_go at h
  split at h
  · simp only [Option.some.injEq] at h
    subst h
    rename_i q0_ q1_
    skip
    exact EX.of (wteeth_tree q0_ q1_) (wteeth_holds q0_ q1_)
  · cases h
def wangle_res (T : Int) (M : Int) (t : Int) : CRes := ⟨[], .tup [.cel (.int .i64 (if wValid T M && decide (0 ≤ t) && decide (t < tth T M) then t * spc T M else 0)), .cel (.int .i64 (if wValid T M then (if decide (0 ≤ t) && decide (t < tth T M) then 0 else 2) else 1))], []⟩
def wangle_go : List TV → List RowA → List (List CV) → Option CRes := fun args rows caps =>
  match args, rows, caps with
  | [.agg [.int .i64 T, .int .i64 M], .cel (.int .i64 t)], [], [] => some (wangle_res T M t)
  | _, _, _ => none
def wangle_e : Ent := ⟨28, [], wangle_go⟩
set_option maxRecDepth 100000 in
theorem wangle_tree (T : Int) (M : Int) (t : Int) : ((cnd (!(wValid T M))
  (((0 : Int) = (if ((((wValid T M) && (decide ((0 : Int) ≤ t))) && (decide (t < (tth T M)))) = Bool.true) then (t * (spc T M)) else (0 : Int))) ∧ ((1 : Int) = (if ((wValid T M) = Bool.true) then (if (((decide ((0 : Int) ≤ t)) && (decide (t < (tth T M)))) = Bool.true) then (0 : Int) else (2 : Int)) else (1 : Int))))
  (cnd ((decide (t < (0 : Int))) || (decide ((tth T M) ≤ t)))
    (((0 : Int) = (if ((((wValid T M) && (decide ((0 : Int) ≤ t))) && (decide (t < (tth T M)))) = Bool.true) then (t * (spc T M)) else (0 : Int))) ∧ ((2 : Int) = (if ((wValid T M) = Bool.true) then (if (((decide ((0 : Int) ≤ t)) && (decide (t < (tth T M)))) = Bool.true) then (0 : Int) else (2 : Int)) else (1 : Int))))
    (((Go.IntKind.wrap Go.IntKind.i64 (t * (spc T M))) = (if ((((wValid T M) && (decide ((0 : Int) ≤ t))) && (decide (t < (tth T M)))) = Bool.true) then (t * (spc T M)) else (0 : Int))) ∧ ((0 : Int) = (if ((wValid T M) = Bool.true) then (if (((decide ((0 : Int) ≤ t)) && (decide (t < (tth T M)))) = Bool.true) then (0 : Int) else (2 : Int)) else (1 : Int))))))) = EXD Try.prog (conOf [wvalid_e, wteeth_e, wspace_e]) Try.f28 [.agg [.int .i64 T, .int .i64 M], .cel (.int .i64 t)] [] [] (wangle_res T M t) := by kernel_rfl
theorem wangle_holds (T : Int) (M : Int) (t : Int)  : (cnd (!(wValid T M))
  (((0 : Int) = (if ((((wValid T M) && (decide ((0 : Int) ≤ t))) && (decide (t < (tth T M)))) = Bool.true) then (t * (spc T M)) else (0 : Int))) ∧ ((1 : Int) = (if ((wValid T M) = Bool.true) then (if (((decide ((0 : Int) ≤ t)) && (decide (t < (tth T M)))) = Bool.true) then (0 : Int) else (2 : Int)) else (1 : Int))))
  (cnd ((decide (t < (0 : Int))) || (decide ((tth T M) ≤ t)))
    (((0 : Int) = (if ((((wValid T M) && (decide ((0 : Int) ≤ t))) && (decide (t < (tth T M)))) = Bool.true) then (t * (spc T M)) else (0 : Int))) ∧ ((2 : Int) = (if ((wValid T M) = Bool.true) then (if (((decide ((0 : Int) ≤ t)) && (decide (t < (tth T M)))) = Bool.true) then (0 : Int) else (2 : Int)) else (1 : Int))))
    (((Go.IntKind.wrap Go.IntKind.i64 (t * (spc T M))) = (if ((((wValid T M) && (decide ((0 : Int) ≤ t))) && (decide (t < (tth T M)))) = Bool.true) then (t * (spc T M)) else (0 : Int))) ∧ ((0 : Int) = (if ((wValid T M) = Bool.true) then (if (((decide ((0 : Int) ≤ t)) && (decide (t < (tth T M)))) = Bool.true) then (0 : Int) else (2 : Int)) else (1 : Int)))))) := by
  by_cases h : wValid T M = true
  · obtain ⟨b0, b1, b2, b3⟩ := spc_bd h
    have hh := wValid_iff.1 h
    have hm : tth T M = T - M := by unfold tth; rw [if_pos h]
    simp only [h, Bool.not_true, cnd, Bool.true_and, if_true]
    by_cases ht : 0 ≤ t ∧ t < tth T M
    · have hb := mul_bd (a := t) (b := spc T M) (A := 120) (B := 1920) ht.1 (by omega) (by omega) b1
      have j1 : decide (t < 0) = false := by simp; omega
      have j2 : decide (tth T M ≤ t) = false := by simp; omega
      simp only [j1, j2, ht.1, ht.2, decide_true, Bool.or_false, Bool.and_true, if_true]
      rw [w64 (by omega) (by omega)]
      simp
    · have j1 : (decide (t < 0) || decide (tth T M ≤ t)) = true := by simp; omega
      have j2 : (decide (0 ≤ t) && decide (t < tth T M)) = false := by simp; omega
      simp [j1, j2]
  · have h : wValid T M = false := by simpa using h
    simp [h, cnd]
set_option maxHeartbeats 2000000 in
theorem wangle_ok : SoundEnt Try.prog wangle_e := by
  refine ent_of_ex (Γ := (conOf [wvalid_e, wteeth_e, wspace_e])) (conOf_sound (scons wvalid_ok (scons wteeth_ok (scons wspace_ok snil)))) (by kernel_rfl) Try.func28 (by kernel_rfl) (by kernel_rfl) (fun args rows caps res h ho => ?_)
  change wangle_go args rows caps = some res at h
  unfold wangle_go at h
  split at h
  · simp only [Option.some.injEq] at h
    subst h
    rename_i q0_ q1_ q2_
    skip
    exact EX.of (wangle_tree q0_ q1_ q2_) (wangle_holds q0_ q1_ q2_)
  · cases h
def isTime_res (t : Int) : CRes := ⟨[], .one (.cel (.bool (isT t))), []⟩
def isTime_go : List TV → List RowA → List (List CV) → Option CRes := fun args rows caps =>
  match args, rows, caps with
  | [.cel (.int .i64 t)], [], [] => some (isTime_res t)
  | _, _, _ => none
def isTime_e : Ent := ⟨31, [], isTime_go⟩
set_option maxRecDepth 100000 in
theorem isTime_tree (t : Int) : ((((decide ((0 : Int) ≤ t)) && (decide (t ≤ (1099511627776 : Int)))) = (isT t))) = EXD Try.prog (conOf []) Try.f31 [.cel (.int .i64 t)] [] [] (isTime_res t) := by kernel_rfl
theorem isTime_holds (t : Int)  : (((decide ((0 : Int) ≤ t)) && (decide (t ≤ (1099511627776 : Int)))) = (isT t)) := by
  simp [condF, isT]
set_option maxHeartbeats 2000000 in
theorem isTime_ok : SoundEnt Try.prog isTime_e := by
  refine ent_of_ex (Γ := (conOf [])) (conOf_sound snil) (by kernel_rfl) Try.func31 (by kernel_rfl) (by kernel_rfl) (fun args rows caps res h ho => ?_)
  change isTime_go args rows caps = some res at h
  unfold isTime_go at h
  split at h
  · simp only [Option.some.injEq] at h
    subst h
    rename_i q0_
    skip
    exact EX.of (isTime_tree q0_) (isTime_holds q0_)
  · cases h
def avalid_res (v : Bool) (a0 : Int) (an : Int) (pe : Int) (sp : Int) (ah : Int) : CRes := ⟨[], .one (.cel (.bool (cValid v a0 an pe sp ah))), []⟩
def avalid_go : List TV → List RowA → List (List CV) → Option CRes := fun args rows caps =>
  match args, rows, caps with
  | [.agg [.bool v, .int .i64 a0, .int .i64 an, .int .i64 pe, .int .i64 sp, .int .i64 ah]], [], [] => some (avalid_res v a0 an pe sp ah)
  | _, _, _ => none
def avalid_e : Ent := ⟨18, [], avalid_go⟩
set_option maxRecDepth 100000 in
theorem avalid_tree (v : Bool) (a0 : Int) (an : Int) (pe : Int) (sp : Int) (ah : Int) : ((cnd (!v)
  (((v == Bool.false) && ((decide (a0 = (0 : Int))) && ((decide (an = (0 : Int))) && ((decide (pe = (0 : Int))) && ((decide (sp = (0 : Int))) && ((decide (ah = (0 : Int))) && Bool.true)))))) = (cValid v a0 an pe sp ah))
  (cnd (((((((!(isT a0)) || (decide (an < (0 : Int)))) || (decide ((46080 : Int) ≤ an))) || (decide (pe < (1 : Int)))) || (decide ((1073741824 : Int) < pe))) || (decide (sp < (192 : Int)))) || (decide ((1920 : Int) < sp)))
    (Bool.false = (cValid v a0 an pe sp ah))
    ((((decide (ah = sp)) || (decide (ah = (Go.IntKind.wrap Go.IntKind.i64 ((2 : Int) * sp))))) || (decide (ah = (Go.IntKind.wrap Go.IntKind.i64 ((3 : Int) * sp))))) = (cValid v a0 an pe sp ah))))) = EXD Try.prog (conOf [isTime_e]) Try.f18 [.agg [.bool v, .int .i64 a0, .int .i64 an, .int .i64 pe, .int .i64 sp, .int .i64 ah]] [] [] (avalid_res v a0 an pe sp ah) := by kernel_rfl
theorem avalid_holds (v : Bool) (a0 : Int) (an : Int) (pe : Int) (sp : Int) (ah : Int)  : (cnd (!v)
  (((v == Bool.false) && ((decide (a0 = (0 : Int))) && ((decide (an = (0 : Int))) && ((decide (pe = (0 : Int))) && ((decide (sp = (0 : Int))) && ((decide (ah = (0 : Int))) && Bool.true)))))) = (cValid v a0 an pe sp ah))
  (cnd (((((((!(isT a0)) || (decide (an < (0 : Int)))) || (decide ((46080 : Int) ≤ an))) || (decide (pe < (1 : Int)))) || (decide ((1073741824 : Int) < pe))) || (decide (sp < (192 : Int)))) || (decide ((1920 : Int) < sp)))
    (Bool.false = (cValid v a0 an pe sp ah))
    ((((decide (ah = sp)) || (decide (ah = (Go.IntKind.wrap Go.IntKind.i64 ((2 : Int) * sp))))) || (decide (ah = (Go.IntKind.wrap Go.IntKind.i64 ((3 : Int) * sp))))) = (cValid v a0 an pe sp ah)))) := by
  cases v with
  | false => simp [cnd, cValid, Bool.and_assoc]
  | true =>
    simp only [cValid, Bool.not_true, cnd, if_true]
    by_cases hs : 192 ≤ sp ∧ sp ≤ 1920
    · rw [w64 (n := 2 * sp) (by omega) (by omega), w64 (n := 3 * sp) (by omega) (by omega)]
      by_cases hh : isT a0 = true ∧ 0 ≤ an ∧ an < 46080 ∧ 1 ≤ pe ∧ pe ≤ 1073741824
      · have j : ((((((!isT a0 || decide (an < 0)) || decide (46080 ≤ an)) || decide (pe < 1)) || decide (1073741824 < pe)) || decide (sp < 192)) || decide (1920 < sp)) = false := by
          simp [hh.1]; omega
        rw [j]
        simp [cKnown, hh.1, hh.2.1, hh.2.2.1, hh.2.2.2.1, hh.2.2.2.2, hs.1, hs.2]
      · have j : ((((((!isT a0 || decide (an < 0)) || decide (46080 ≤ an)) || decide (pe < 1)) || decide (1073741824 < pe)) || decide (sp < 192)) || decide (1920 < sp)) = true := by
          by_cases hi : isT a0 = true
          · simp [hi]
            simp [hi] at hh
            omega
          · simp [hi]
        rw [j]
        show false = cKnown a0 an pe sp ah
        symm
        simp only [cKnown]
        by_cases hi : isT a0 = true
        · simp [hi]
          simp [hi] at hh
          omega
        · simp [hi]
    · have j : ((((((!isT a0 || decide (an < 0)) || decide (46080 ≤ an)) || decide (pe < 1)) || decide (1073741824 < pe)) || decide (sp < 192)) || decide (1920 < sp)) = true := by
        simp; omega
      rw [j]
      show false = cKnown a0 an pe sp ah
      symm
      simp [cKnown]
      omega
set_option maxHeartbeats 2000000 in
theorem avalid_ok : SoundEnt Try.prog avalid_e := by
  refine ent_of_ex (Γ := (conOf [isTime_e])) (conOf_sound (scons isTime_ok snil)) (by kernel_rfl) Try.func18 (by kernel_rfl) (by kernel_rfl) (fun args rows caps res h ho => ?_)
  change avalid_go args rows caps = some res at h
  unfold avalid_go at h
  split at h
  · simp only [Option.some.injEq] at h
    subst h
    rename_i q0_ q1_ q2_ q3_ q4_ q5_
    skip
    exact EX.of (avalid_tree q0_ q1_ q2_ q3_ q4_ q5_) (avalid_holds q0_ q1_ q2_ q3_ q4_ q5_)
  · cases h
def acheck_res (v : Bool) (a0 : Int) (an : Int) (pe : Int) (sp : Int) (ah : Int) : CRes := ⟨[], .one (.cel (.int .i64 (cErr v a0 an pe sp ah))), []⟩
def acheck_go : List TV → List RowA → List (List CV) → Option CRes := fun args rows caps =>
  match args, rows, caps with
  | [.agg [.bool v, .int .i64 a0, .int .i64 an, .int .i64 pe, .int .i64 sp, .int .i64 ah]], [], [] => some (acheck_res v a0 an pe sp ah)
  | _, _, _ => none
def acheck_e : Ent := ⟨30, [], acheck_go⟩
set_option maxRecDepth 100000 in
theorem acheck_tree (v : Bool) (a0 : Int) (an : Int) (pe : Int) (sp : Int) (ah : Int) : ((cnd (!(cValid v a0 an pe sp ah))
  ((1 : Int) = (cErr v a0 an pe sp ah))
  (cnd (!v)
    ((6 : Int) = (cErr v a0 an pe sp ah))
    ((0 : Int) = (cErr v a0 an pe sp ah))))) = EXD Try.prog (conOf [avalid_e]) Try.f30 [.agg [.bool v, .int .i64 a0, .int .i64 an, .int .i64 pe, .int .i64 sp, .int .i64 ah]] [] [] (acheck_res v a0 an pe sp ah) := by kernel_rfl
theorem acheck_holds (v : Bool) (a0 : Int) (an : Int) (pe : Int) (sp : Int) (ah : Int)  : (cnd (!(cValid v a0 an pe sp ah))
  ((1 : Int) = (cErr v a0 an pe sp ah))
  (cnd (!v)
    ((6 : Int) = (cErr v a0 an pe sp ah))
    ((0 : Int) = (cErr v a0 an pe sp ah)))) := by
  unfold cErr
  (repeat' (first | with_reducible rfl | trivial | (refine cnd_i (fun h => ?_) (fun h => ?_)) | (refine And.intro ?_ ?_) | (intro h)))
  all_goals (simp_all)
set_option maxHeartbeats 2000000 in
theorem acheck_ok : SoundEnt Try.prog acheck_e := by
  refine ent_of_ex (Γ := (conOf [avalid_e])) (conOf_sound (scons avalid_ok snil)) (by kernel_rfl) Try.func30 (by kernel_rfl) (by kernel_rfl) (fun args rows caps res h ho => ?_)
  change acheck_go args rows caps = some res at h
  unfold acheck_go at h
  split at h
  · simp only [Option.some.injEq] at h
    subst h
    rename_i q0_ q1_ q2_ q3_ q4_ q5_
    skip
    exact EX.of (acheck_tree q0_ q1_ q2_ q3_ q4_ q5_) (acheck_holds q0_ q1_ q2_ q3_ q4_ q5_)
  · cases h
def aup_res (a : Int) (b : Int) : CRes := ⟨[decide (0 ≤ a), inBig a, decide (1 ≤ b), inBig b], .one (.cel (.int .i64 (upq a b))), []⟩
def aup_go : List TV → List RowA → List (List CV) → Option CRes := fun args rows caps =>
  match args, rows, caps with
  | [.cel (.int .i64 a), .cel (.int .i64 b)], [], [] => some (aup_res a b)
  | _, _, _ => none
def aup_e : Ent := ⟨34, [], aup_go⟩
set_option maxRecDepth 100000 in
theorem aup_tree (a : Int) (b : Int) : ((cnd (inBig a)
  (cnd (decide ((1 : Int) ≤ b))
    (cnd (inBig b)
      ((rdiv a b (2 : Int)) = (upq a b))
      False)
    False)
  False)) = EXD Try.prog (conOf [div_e]) Try.f34 [.cel (.int .i64 a), .cel (.int .i64 b)] [] [] (aup_res a b) := by kernel_rfl
theorem aup_holds (a : Int) (b : Int) (p0 : decide (0 ≤ a) = true) (p1 : inBig a = true) (p2 : decide (1 ≤ b) = true) (p3 : inBig b = true) : (cnd (inBig a)
  (cnd (decide ((1 : Int) ≤ b))
    (cnd (inBig b)
      ((rdiv a b (2 : Int)) = (upq a b))
      False)
    False)
  False) := by
  simp only [p1, p2, p3, cnd, rdiv, upq]
  simp
set_option maxHeartbeats 2000000 in
theorem aup_ok : SoundEnt Try.prog aup_e := by
  refine ent_of_ex (Γ := (conOf [div_e])) (conOf_sound (scons div_ok snil)) (by kernel_rfl) Try.func34 (by kernel_rfl) (by kernel_rfl) (fun args rows caps res h ho => ?_)
  change aup_go args rows caps = some res at h
  unfold aup_go at h
  split at h
  · simp only [Option.some.injEq] at h
    subst h
    rename_i q0_ q1_
    obtain ⟨p0, p1, p2, p3, _⟩ := ho
    exact EX.of (aup_tree q0_ q1_) (aup_holds q0_ q1_ p0 p1 p2 p3)
  · cases h
def aat_res (v : Bool) (a0 : Int) (an : Int) (pe : Int) (sp : Int) (ah : Int) (t : Int) : CRes := ⟨[], .tup [.cel (.int .i64 (atA v a0 an pe sp ah t)), .cel (.int .i64 (atErr v a0 an pe sp ah t))], []⟩
def aat_go : List TV → List RowA → List (List CV) → Option CRes := fun args rows caps =>
  match args, rows, caps with
  | [.agg [.bool v, .int .i64 a0, .int .i64 an, .int .i64 pe, .int .i64 sp, .int .i64 ah], .cel (.int .i64 t)], [], [] => some (aat_res v a0 an pe sp ah t)
  | _, _, _ => none
def aat_e : Ent := ⟨11, [], aat_go⟩
set_option maxRecDepth 100000 in
theorem aat_tree (v : Bool) (a0 : Int) (an : Int) (pe : Int) (sp : Int) (ah : Int) (t : Int) : ((cnd (!(decide ((cErr v a0 an pe sp ah) = (0 : Int))))
  (((0 : Int) = (atA v a0 an pe sp ah t)) ∧ ((cErr v a0 an pe sp ah) = (atErr v a0 an pe sp ah t)))
  (cnd (!(isT t))
    (((0 : Int) = (atA v a0 an pe sp ah t)) ∧ ((2 : Int) = (atErr v a0 an pe sp ah t)))
    (cnd (decide (t < a0))
      (((0 : Int) = (atA v a0 an pe sp ah t)) ∧ ((16 : Int) = (atErr v a0 an pe sp ah t)))
      (cnd (decide (pe ≠ (0 : Int)))
        (((Int.tmod (Go.IntKind.wrap Go.IntKind.i64 (an + (gmin ah (Go.IntKind.wrap Go.IntKind.i64 (Int.tdiv (Go.IntKind.wrap Go.IntKind.i64 ((Go.IntKind.wrap Go.IntKind.i64 (t - a0)) * sp)) pe))))) (46080 : Int)) = (atA v a0 an pe sp ah t)) ∧ ((0 : Int) = (atErr v a0 an pe sp ah t)))
        False))))) = EXD Try.prog (conOf [isTime_e, acheck_e]) Try.f11 [.agg [.bool v, .int .i64 a0, .int .i64 an, .int .i64 pe, .int .i64 sp, .int .i64 ah], .cel (.int .i64 t)] [] [] (aat_res v a0 an pe sp ah t) := by kernel_rfl
theorem aat_holds (v : Bool) (a0 : Int) (an : Int) (pe : Int) (sp : Int) (ah : Int) (t : Int)  : (cnd (!(decide ((cErr v a0 an pe sp ah) = (0 : Int))))
  (((0 : Int) = (atA v a0 an pe sp ah t)) ∧ ((cErr v a0 an pe sp ah) = (atErr v a0 an pe sp ah t)))
  (cnd (!(isT t))
    (((0 : Int) = (atA v a0 an pe sp ah t)) ∧ ((2 : Int) = (atErr v a0 an pe sp ah t)))
    (cnd (decide (t < a0))
      (((0 : Int) = (atA v a0 an pe sp ah t)) ∧ ((16 : Int) = (atErr v a0 an pe sp ah t)))
      (cnd (decide (pe ≠ (0 : Int)))
        (((Int.tmod (Go.IntKind.wrap Go.IntKind.i64 (an + (gmin ah (Go.IntKind.wrap Go.IntKind.i64 (Int.tdiv (Go.IntKind.wrap Go.IntKind.i64 ((Go.IntKind.wrap Go.IntKind.i64 (t - a0)) * sp)) pe))))) (46080 : Int)) = (atA v a0 an pe sp ah t)) ∧ ((0 : Int) = (atErr v a0 an pe sp ah t)))
        False)))) := by
  by_cases hz : cErr v a0 an pe sp ah = 0
  · obtain ⟨rfl, hk⟩ := cErr_zero.1 hz
    rw [cKnown_iff] at hk
    obtain ⟨⟨k1, k2⟩, k3, k4, k5, k6, k7, k8, k9⟩ := hk
    by_cases ht : isT t = true
    · have ht2 := isT_iff.1 ht
      by_cases hl : t < a0
      · simp [atA, atErr, hz, ht, hl, cnd]
      · have he : atErr true a0 an pe sp ah t = 0 := by simp [atErr, hz, ht, hl]
        have hb := mul_bd (a := t - a0) (b := sp) (A := 1099511627776) (B := 1920) (by omega) (by omega) (by omega) (by omega)
        have hq := quo_pos hb.1 k5
        have j : decide (pe ≠ 0) = true := by simp; omega
        rw [w64 (n := t - a0) (by omega) (by omega), w64 (n := (t - a0) * sp) (by omega) (by omega), show Int.tdiv ((t - a0) * sp) pe = (t - a0) * sp / pe from tdiv_pos hb.1, w64 (n := (t - a0) * sp / pe) (by omega) (by omega), gmin_eq, w64 (n := an + min ah ((t - a0) * sp / pe)) (by omega) (by omega), show Int.tmod (an + min ah ((t - a0) * sp / pe)) 46080 = (an + min ah ((t - a0) * sp / pe)) % 46080 from tmod_pos (by omega)]
        simp [atA, he, hz, ht, hl, cnd, j]
    · simp [atA, atErr, hz, ht, cnd]
  · simp [atA, atErr, hz, cnd]
set_option maxHeartbeats 2000000 in
theorem aat_ok : SoundEnt Try.prog aat_e := by
  refine ent_of_ex (Γ := (conOf [isTime_e, acheck_e])) (conOf_sound (scons isTime_ok (scons acheck_ok snil))) (by kernel_rfl) Try.func11 (by kernel_rfl) (by kernel_rfl) (fun args rows caps res h ho => ?_)
  change aat_go args rows caps = some res at h
  unfold aat_go at h
  split at h
  · simp only [Option.some.injEq] at h
    subst h
    rename_i q0_ q1_ q2_ q3_ q4_ q5_ q6_
    skip
    exact EX.of (aat_tree q0_ q1_ q2_ q3_ q4_ q5_ q6_) (aat_holds q0_ q1_ q2_ q3_ q4_ q5_ q6_)
  · cases h
def atime_res (v : Bool) (a0 : Int) (an : Int) (pe : Int) (sp : Int) (ah : Int) (a : Int) : CRes := ⟨[], .tup [.cel (.int .i64 (tmT v a0 an pe sp ah a)), .cel (.int .i64 (tmErr v a0 an pe sp ah a))], []⟩
def atime_go : List TV → List RowA → List (List CV) → Option CRes := fun args rows caps =>
  match args, rows, caps with
  | [.agg [.bool v, .int .i64 a0, .int .i64 an, .int .i64 pe, .int .i64 sp, .int .i64 ah], .cel (.int .i64 a)], [], [] => some (atime_res v a0 an pe sp ah a)
  | _, _, _ => none
def atime_e : Ent := ⟨13, [], atime_go⟩
set_option maxRecDepth 100000 in
theorem atime_tree (v : Bool) (a0 : Int) (an : Int) (pe : Int) (sp : Int) (ah : Int) (a : Int) : ((cnd (!(decide ((cErr v a0 an pe sp ah) = (0 : Int))))
  (((0 : Int) = (tmT v a0 an pe sp ah a)) ∧ ((cErr v a0 an pe sp ah) = (tmErr v a0 an pe sp ah a)))
  (cnd ((decide (a < (0 : Int))) || (decide ((46080 : Int) ≤ a)))
    (((0 : Int) = (tmT v a0 an pe sp ah a)) ∧ ((2 : Int) = (tmErr v a0 an pe sp ah a)))
    (cnd (decide (ah ≤ (Int.tmod (Go.IntKind.wrap Go.IntKind.i64 ((Go.IntKind.wrap Go.IntKind.i64 (a - an)) + (46080 : Int))) (46080 : Int))))
      (((0 : Int) = (tmT v a0 an pe sp ah a)) ∧ ((7 : Int) = (tmErr v a0 an pe sp ah a)))
      (cnd (decide ((0 : Int) ≤ (Go.IntKind.wrap Go.IntKind.i64 ((Int.tmod (Go.IntKind.wrap Go.IntKind.i64 ((Go.IntKind.wrap Go.IntKind.i64 (a - an)) + (46080 : Int))) (46080 : Int)) * pe))))
        (cnd (inBig (Go.IntKind.wrap Go.IntKind.i64 ((Int.tmod (Go.IntKind.wrap Go.IntKind.i64 ((Go.IntKind.wrap Go.IntKind.i64 (a - an)) + (46080 : Int))) (46080 : Int)) * pe)))
          (cnd (decide ((1 : Int) ≤ sp))
            (cnd (inBig sp)
              (cnd (!(isT (Go.IntKind.wrap Go.IntKind.i64 (a0 + (upq (Go.IntKind.wrap Go.IntKind.i64 ((Int.tmod (Go.IntKind.wrap Go.IntKind.i64 ((Go.IntKind.wrap Go.IntKind.i64 (a - an)) + (46080 : Int))) (46080 : Int)) * pe)) sp)))))
                (((0 : Int) = (tmT v a0 an pe sp ah a)) ∧ ((2 : Int) = (tmErr v a0 an pe sp ah a)))
                (((Go.IntKind.wrap Go.IntKind.i64 (a0 + (upq (Go.IntKind.wrap Go.IntKind.i64 ((Int.tmod (Go.IntKind.wrap Go.IntKind.i64 ((Go.IntKind.wrap Go.IntKind.i64 (a - an)) + (46080 : Int))) (46080 : Int)) * pe)) sp))) = (tmT v a0 an pe sp ah a)) ∧ ((0 : Int) = (tmErr v a0 an pe sp ah a))))
              False)
            False)
          False)
        False))))) = EXD Try.prog (conOf [isTime_e, acheck_e, aup_e]) Try.f13 [.agg [.bool v, .int .i64 a0, .int .i64 an, .int .i64 pe, .int .i64 sp, .int .i64 ah], .cel (.int .i64 a)] [] [] (atime_res v a0 an pe sp ah a) := by kernel_rfl
theorem atime_holds (v : Bool) (a0 : Int) (an : Int) (pe : Int) (sp : Int) (ah : Int) (a : Int)  : (cnd (!(decide ((cErr v a0 an pe sp ah) = (0 : Int))))
  (((0 : Int) = (tmT v a0 an pe sp ah a)) ∧ ((cErr v a0 an pe sp ah) = (tmErr v a0 an pe sp ah a)))
  (cnd ((decide (a < (0 : Int))) || (decide ((46080 : Int) ≤ a)))
    (((0 : Int) = (tmT v a0 an pe sp ah a)) ∧ ((2 : Int) = (tmErr v a0 an pe sp ah a)))
    (cnd (decide (ah ≤ (Int.tmod (Go.IntKind.wrap Go.IntKind.i64 ((Go.IntKind.wrap Go.IntKind.i64 (a - an)) + (46080 : Int))) (46080 : Int))))
      (((0 : Int) = (tmT v a0 an pe sp ah a)) ∧ ((7 : Int) = (tmErr v a0 an pe sp ah a)))
      (cnd (decide ((0 : Int) ≤ (Go.IntKind.wrap Go.IntKind.i64 ((Int.tmod (Go.IntKind.wrap Go.IntKind.i64 ((Go.IntKind.wrap Go.IntKind.i64 (a - an)) + (46080 : Int))) (46080 : Int)) * pe))))
        (cnd (inBig (Go.IntKind.wrap Go.IntKind.i64 ((Int.tmod (Go.IntKind.wrap Go.IntKind.i64 ((Go.IntKind.wrap Go.IntKind.i64 (a - an)) + (46080 : Int))) (46080 : Int)) * pe)))
          (cnd (decide ((1 : Int) ≤ sp))
            (cnd (inBig sp)
              (cnd (!(isT (Go.IntKind.wrap Go.IntKind.i64 (a0 + (upq (Go.IntKind.wrap Go.IntKind.i64 ((Int.tmod (Go.IntKind.wrap Go.IntKind.i64 ((Go.IntKind.wrap Go.IntKind.i64 (a - an)) + (46080 : Int))) (46080 : Int)) * pe)) sp)))))
                (((0 : Int) = (tmT v a0 an pe sp ah a)) ∧ ((2 : Int) = (tmErr v a0 an pe sp ah a)))
                (((Go.IntKind.wrap Go.IntKind.i64 (a0 + (upq (Go.IntKind.wrap Go.IntKind.i64 ((Int.tmod (Go.IntKind.wrap Go.IntKind.i64 ((Go.IntKind.wrap Go.IntKind.i64 (a - an)) + (46080 : Int))) (46080 : Int)) * pe)) sp))) = (tmT v a0 an pe sp ah a)) ∧ ((0 : Int) = (tmErr v a0 an pe sp ah a))))
              False)
            False)
          False)
        False)))) := by
  by_cases hz : cErr v a0 an pe sp ah = 0
  · obtain ⟨rfl, hk⟩ := cErr_zero.1 hz
    rw [cKnown_iff] at hk
    obtain ⟨⟨k1, k2⟩, k3, k4, k5, k6, k7, k8, k9⟩ := hk
    by_cases ha : 0 ≤ a ∧ a < 46080
    · have hd : Int.tmod (IntKind.i64.wrap (IntKind.i64.wrap (a - an) + 46080)) 46080 = tmD an a := by
        rw [w64 (n := a - an) (by omega) (by omega), w64 (n := a - an + 46080) (by omega) (by omega)]
        exact tmod_pos (by omega)
      have hd2 : 0 ≤ tmD an a ∧ tmD an a < 46080 := by unfold tmD; omega
      have j1 : (decide (a < 0) || decide (46080 ≤ a)) = false := by simp; omega
      rw [hd]
      have hb := mul_bd (a := tmD an a) (b := pe) (A := 46080) (B := 1073741824) (by omega) (by omega) (by omega) (by omega)
      rw [w64 (n := tmD an a * pe) (by omega) (by omega)]
      have hu := upq_bd hb.1 (show 1 ≤ sp by omega)
      rw [w64 (n := a0 + upq (tmD an a * pe) sp) (by omega) (by omega)]
      have i1 : inBig (tmD an a * pe) = true := inBig_iff.2 (by omega)
      have i2 : inBig sp = true := inBig_iff.2 (by omega)
      have i3 : decide (0 ≤ tmD an a * pe) = true := by simpa using hb.1
      have i4 : decide (1 ≤ sp) = true := by simp; omega
      simp only [hz, decide_true, Bool.not_true, cnd, j1, i1, i2, i3, i4]
      by_cases hl : ah ≤ tmD an a
      · simp [tmT, tmErr, hz, ha.1, ha.2, hl]
      · by_cases ht : isT (a0 + upq (tmD an a * pe) sp) = true
        · simp [tmT, tmErr, hz, ha.1, ha.2, hl, ht]
        · simp [tmT, tmErr, hz, ha.1, ha.2, hl, ht]
    · have j1 : (decide (a < 0) || decide (46080 ≤ a)) = true := by simp; omega
      simp [tmT, tmErr, hz, ha, j1, cnd]
  · simp [tmT, tmErr, hz, cnd]
set_option maxHeartbeats 2000000 in
theorem atime_ok : SoundEnt Try.prog atime_e := by
  refine ent_of_ex (Γ := (conOf [isTime_e, acheck_e, aup_e])) (conOf_sound (scons isTime_ok (scons acheck_ok (scons aup_ok snil)))) (by kernel_rfl) Try.func13 (by kernel_rfl) (by kernel_rfl) (fun args rows caps res h ho => ?_)
  change atime_go args rows caps = some res at h
  unfold atime_go at h
  split at h
  · simp only [Option.some.injEq] at h
    subst h
    rename_i q0_ q1_ q2_ q3_ q4_ q5_ q6_
    skip
    exact EX.of (atime_tree q0_ q1_ q2_ q3_ q4_ q5_ q6_) (atime_holds q0_ q1_ q2_ q3_ q4_ q5_ q6_)
  · cases h
def arpm_res (v : Bool) (a0 : Int) (an : Int) (pe : Int) (sp : Int) (ah : Int) : CRes := ⟨[], .one (.cel (.int .i64 (rpmOf v a0 an pe sp ah))), []⟩
def arpm_go : List TV → List RowA → List (List CV) → Option CRes := fun args rows caps =>
  match args, rows, caps with
  | [.agg [.bool v, .int .i64 a0, .int .i64 an, .int .i64 pe, .int .i64 sp, .int .i64 ah]], [], [] => some (arpm_res v a0 an pe sp ah)
  | _, _, _ => none
def arpm_e : Ent := ⟨23, [], arpm_go⟩
set_option maxRecDepth 100000 in
theorem arpm_tree (v : Bool) (a0 : Int) (an : Int) (pe : Int) (sp : Int) (ah : Int) : ((cnd (!(decide ((cErr v a0 an pe sp ah) = (0 : Int))))
  ((0 : Int) = (rpmOf v a0 an pe sp ah))
  (cnd (decide ((Go.IntKind.wrap Go.IntKind.i64 (pe * (23040 : Int))) ≠ (0 : Int)))
    ((Go.IntKind.wrap Go.IntKind.i64 (Int.tdiv (Go.IntKind.wrap Go.IntKind.i64 ((60000000 : Int) * sp)) (Go.IntKind.wrap Go.IntKind.i64 (pe * (23040 : Int))))) = (rpmOf v a0 an pe sp ah))
    False))) = EXD Try.prog (conOf [acheck_e]) Try.f23 [.agg [.bool v, .int .i64 a0, .int .i64 an, .int .i64 pe, .int .i64 sp, .int .i64 ah]] [] [] (arpm_res v a0 an pe sp ah) := by kernel_rfl
theorem arpm_holds (v : Bool) (a0 : Int) (an : Int) (pe : Int) (sp : Int) (ah : Int)  : (cnd (!(decide ((cErr v a0 an pe sp ah) = (0 : Int))))
  ((0 : Int) = (rpmOf v a0 an pe sp ah))
  (cnd (decide ((Go.IntKind.wrap Go.IntKind.i64 (pe * (23040 : Int))) ≠ (0 : Int)))
    ((Go.IntKind.wrap Go.IntKind.i64 (Int.tdiv (Go.IntKind.wrap Go.IntKind.i64 ((60000000 : Int) * sp)) (Go.IntKind.wrap Go.IntKind.i64 (pe * (23040 : Int))))) = (rpmOf v a0 an pe sp ah))
    False)) := by
  by_cases hz : cErr v a0 an pe sp ah = 0
  · obtain ⟨rfl, hk⟩ := cErr_zero.1 hz
    rw [cKnown_iff] at hk
    obtain ⟨⟨k1, k2⟩, k3, k4, k5, k6, k7, k8, k9⟩ := hk
    have hq := quo_pos (x := 60000000 * sp) (y := pe * 23040) (by omega) (by omega)
    rw [w64 (n := pe * 23040) (by omega) (by omega), w64 (n := 60000000 * sp) (by omega) (by omega), show Int.tdiv (60000000 * sp) (pe * 23040) = 60000000 * sp / (pe * 23040) from tdiv_pos (by omega), w64 (n := 60000000 * sp / (pe * 23040)) (by omega) (by omega)]
    have j : decide (pe * 23040 ≠ 0) = true := by simp; omega
    simp only [hz, j, cnd, decide_true, Bool.not_true]
    simp [rpmOf, hz]
  · simp [rpmOf, hz, cnd]
set_option maxHeartbeats 2000000 in
theorem arpm_ok : SoundEnt Try.prog arpm_e := by
  refine ent_of_ex (Γ := (conOf [acheck_e])) (conOf_sound (scons acheck_ok snil)) (by kernel_rfl) Try.func23 (by kernel_rfl) (by kernel_rfl) (fun args rows caps res h ho => ?_)
  change arpm_go args rows caps = some res at h
  unfold arpm_go at h
  split at h
  · simp only [Option.some.injEq] at h
    subst h
    rename_i q0_ q1_ q2_ q3_ q4_ q5_
    skip
    exact EX.of (arpm_tree q0_ q1_ q2_ q3_ q4_ q5_) (arpm_holds q0_ q1_ q2_ q3_ q4_ q5_)
  · cases h
def areach_res (v : Bool) (a0 : Int) (an : Int) (pe : Int) (sp : Int) (ah : Int) : CRes := ⟨[], .tup [.cel (.int .i64 (rcA v a0 an pe sp ah)), .cel (.int .i64 (rcB v a0 an pe sp ah))], []⟩
def areach_go : List TV → List RowA → List (List CV) → Option CRes := fun args rows caps =>
  match args, rows, caps with
  | [.agg [.bool v, .int .i64 a0, .int .i64 an, .int .i64 pe, .int .i64 sp, .int .i64 ah]], [], [] => some (areach_res v a0 an pe sp ah)
  | _, _, _ => none
def areach_e : Ent := ⟨21, [], areach_go⟩
set_option maxRecDepth 100000 in
theorem areach_tree (v : Bool) (a0 : Int) (an : Int) (pe : Int) (sp : Int) (ah : Int) : ((cnd (!(decide ((cErr v a0 an pe sp ah) = (0 : Int))))
  (((0 : Int) = (rcA v a0 an pe sp ah)) ∧ ((0 : Int) = (rcB v a0 an pe sp ah)))
  ((an = (rcA v a0 an pe sp ah)) ∧ ((Int.tmod (Go.IntKind.wrap Go.IntKind.i64 (an + ah)) (46080 : Int)) = (rcB v a0 an pe sp ah))))) = EXD Try.prog (conOf [acheck_e]) Try.f21 [.agg [.bool v, .int .i64 a0, .int .i64 an, .int .i64 pe, .int .i64 sp, .int .i64 ah]] [] [] (areach_res v a0 an pe sp ah) := by kernel_rfl
theorem areach_holds (v : Bool) (a0 : Int) (an : Int) (pe : Int) (sp : Int) (ah : Int)  : (cnd (!(decide ((cErr v a0 an pe sp ah) = (0 : Int))))
  (((0 : Int) = (rcA v a0 an pe sp ah)) ∧ ((0 : Int) = (rcB v a0 an pe sp ah)))
  ((an = (rcA v a0 an pe sp ah)) ∧ ((Int.tmod (Go.IntKind.wrap Go.IntKind.i64 (an + ah)) (46080 : Int)) = (rcB v a0 an pe sp ah)))) := by
  by_cases hz : cErr v a0 an pe sp ah = 0
  · obtain ⟨rfl, hk⟩ := cErr_zero.1 hz
    rw [cKnown_iff] at hk
    rw [w64 (n := an + ah) (by omega) (by omega), show Int.tmod (an + ah) 46080 = (an + ah) % 46080 from tmod_pos (by omega)]
    simp [rcA, rcB, hz, cnd]
  · simp [rcA, rcB, hz, cnd]
set_option maxHeartbeats 2000000 in
theorem areach_ok : SoundEnt Try.prog areach_e := by
  refine ent_of_ex (Γ := (conOf [acheck_e])) (conOf_sound (scons acheck_ok snil)) (by kernel_rfl) Try.func21 (by kernel_rfl) (by kernel_rfl) (fun args rows caps res h ho => ?_)
  change areach_go args rows caps = some res at h
  unfold areach_go at h
  split at h
  · simp only [Option.some.injEq] at h
    subst h
    rename_i q0_ q1_ q2_ q3_ q4_ q5_
    skip
    exact EX.of (areach_tree q0_ q1_ q2_ q3_ q4_ q5_) (areach_holds q0_ q1_ q2_ q3_ q4_ q5_)
  · cases h
def aticks_res (v : Bool) (a0 : Int) (an : Int) (pe : Int) (sp : Int) (ah : Int) (u : Int) : CRes := ⟨[], .tup [.cel (.int .i64 (tkT v a0 an pe sp ah u)), .cel (.int .i64 (tkErr v a0 an pe sp ah u))], []⟩
def aticks_go : List TV → List RowA → List (List CV) → Option CRes := fun args rows caps =>
  match args, rows, caps with
  | [.agg [.bool v, .int .i64 a0, .int .i64 an, .int .i64 pe, .int .i64 sp, .int .i64 ah], .cel (.int .i64 u)], [], [] => some (aticks_res v a0 an pe sp ah u)
  | _, _, _ => none
def aticks_e : Ent := ⟨24, [], aticks_go⟩
set_option maxRecDepth 100000 in
theorem aticks_tree (v : Bool) (a0 : Int) (an : Int) (pe : Int) (sp : Int) (ah : Int) (u : Int) : ((cnd (!(decide ((cErr v a0 an pe sp ah) = (0 : Int))))
  (((0 : Int) = (tkT v a0 an pe sp ah u)) ∧ ((cErr v a0 an pe sp ah) = (tkErr v a0 an pe sp ah u)))
  (cnd ((decide (u < (0 : Int))) || (decide ((46080 : Int) < u)))
    (((0 : Int) = (tkT v a0 an pe sp ah u)) ∧ ((2 : Int) = (tkErr v a0 an pe sp ah u)))
    (cnd (decide ((0 : Int) ≤ (Go.IntKind.wrap Go.IntKind.i64 (u * pe))))
      (cnd (inBig (Go.IntKind.wrap Go.IntKind.i64 (u * pe)))
        (cnd (decide ((1 : Int) ≤ sp))
          (cnd (inBig sp)
            (((upq (Go.IntKind.wrap Go.IntKind.i64 (u * pe)) sp) = (tkT v a0 an pe sp ah u)) ∧ ((0 : Int) = (tkErr v a0 an pe sp ah u)))
            False)
          False)
        False)
      False)))) = EXD Try.prog (conOf [acheck_e, aup_e]) Try.f24 [.agg [.bool v, .int .i64 a0, .int .i64 an, .int .i64 pe, .int .i64 sp, .int .i64 ah], .cel (.int .i64 u)] [] [] (aticks_res v a0 an pe sp ah u) := by kernel_rfl
theorem aticks_holds (v : Bool) (a0 : Int) (an : Int) (pe : Int) (sp : Int) (ah : Int) (u : Int)  : (cnd (!(decide ((cErr v a0 an pe sp ah) = (0 : Int))))
  (((0 : Int) = (tkT v a0 an pe sp ah u)) ∧ ((cErr v a0 an pe sp ah) = (tkErr v a0 an pe sp ah u)))
  (cnd ((decide (u < (0 : Int))) || (decide ((46080 : Int) < u)))
    (((0 : Int) = (tkT v a0 an pe sp ah u)) ∧ ((2 : Int) = (tkErr v a0 an pe sp ah u)))
    (cnd (decide ((0 : Int) ≤ (Go.IntKind.wrap Go.IntKind.i64 (u * pe))))
      (cnd (inBig (Go.IntKind.wrap Go.IntKind.i64 (u * pe)))
        (cnd (decide ((1 : Int) ≤ sp))
          (cnd (inBig sp)
            (((upq (Go.IntKind.wrap Go.IntKind.i64 (u * pe)) sp) = (tkT v a0 an pe sp ah u)) ∧ ((0 : Int) = (tkErr v a0 an pe sp ah u)))
            False)
          False)
        False)
      False))) := by
  by_cases hz : cErr v a0 an pe sp ah = 0
  · obtain ⟨rfl, hk⟩ := cErr_zero.1 hz
    rw [cKnown_iff] at hk
    obtain ⟨⟨k1, k2⟩, k3, k4, k5, k6, k7, k8, k9⟩ := hk
    by_cases hu : 0 ≤ u ∧ u ≤ 46080
    · have hb := mul_bd (a := u) (b := pe) (A := 46080) (B := 1073741824) (by omega) (by omega) (by omega) (by omega)
      rw [w64 (n := u * pe) (by omega) (by omega)]
      have i1 : inBig (u * pe) = true := inBig_iff.2 (by omega)
      have i2 : inBig sp = true := inBig_iff.2 (by omega)
      have i3 : decide (0 ≤ u * pe) = true := by simpa using hb.1
      have i4 : decide (1 ≤ sp) = true := by simp; omega
      have j1 : (decide (u < 0) || decide (46080 < u)) = false := by simp; omega
      simp only [hz, decide_true, Bool.not_true, cnd, j1, i1, i2, i3, i4]
      simp [tkT, tkErr, hz, hu.1, hu.2]
    · have j1 : (decide (u < 0) || decide (46080 < u)) = true := by simp; omega
      simp [tkT, tkErr, hz, hu, j1, cnd]
  · simp [tkT, tkErr, hz, cnd]
set_option maxHeartbeats 2000000 in
theorem aticks_ok : SoundEnt Try.prog aticks_e := by
  refine ent_of_ex (Γ := (conOf [acheck_e, aup_e])) (conOf_sound (scons acheck_ok (scons aup_ok snil))) (by kernel_rfl) Try.func24 (by kernel_rfl) (by kernel_rfl) (fun args rows caps res h ho => ?_)
  change aticks_go args rows caps = some res at h
  unfold aticks_go at h
  split at h
  · simp only [Option.some.injEq] at h
    subst h
    rename_i q0_ q1_ q2_ q3_ q4_ q5_ q6_
    skip
    exact EX.of (aticks_tree q0_ q1_ q2_ q3_ q4_ q5_ q6_) (aticks_holds q0_ q1_ q2_ q3_ q4_ q5_ q6_)
  · cases h
end Go.Proofs.Ytfkoopimppkkfaa

