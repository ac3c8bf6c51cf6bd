/- The clock between teeth: the reference, and the clock of a tooth. -/
import Derived.Test.YtfkoopimppkkfaaC1
namespace Go.Proofs.Ytfkoopimppkkfaa
set_option linter.unusedVariables false
set_option linter.unusedSimpArgs false
open Go.RowKit

def toErr (T M t th hf pe : Int) : Int := if wValid T M then (if isT t && decide (0 ≤ th) && decide (th < tth T M) && decide (0 ≤ hf) && decide (hf ≤ 1) && decide (M < pe) && decide (pe ≤ 1073741824) then 0 else 2) else 1
def toOk (T M t th hf pe : Int) : Bool := decide (toErr T M t th hf pe = 0)
def toAt (T M t th hf pe : Int) : Int := if toOk T M t th hf pe then t else 0
def toAn (T M t th hf pe : Int) : Int := if toOk T M t th hf pe then hf * 23040 + th * spc T M else 0
def toPe (T M t th hf pe : Int) : Int := if toOk T M t th hf pe then (if th = 0 then pe / (M + 1) else pe) else 0
def toSp (T M t th hf pe : Int) : Int := if toOk T M t th hf pe then spc T M else 0
def toAh (T M t th hf pe : Int) : Int := if toOk T M t th hf pe then (if th = tth T M - 1 then (M + 1) * spc T M else spc T M) else 0
def tC (T M t th hf pe : Int) : Bool := isT t && decide (0 ≤ th) && decide (th < tth T M) && decide (0 ≤ hf) && decide (hf ≤ 1) && decide (M < pe) && decide (pe ≤ 1073741824)
theorem tC_eq (T M t th hf pe : Int) : tC T M t th hf pe = (isT t && decide (0 ≤ th) && decide (th < tth T M) && decide (0 ≤ hf) && decide (hf ≤ 1) && decide (M < pe) && decide (pe ≤ 1073741824)) := rfl
theorem tC_iff {T M t th hf pe : Int} : tC T M t th hf pe = true ↔ isT t = true ∧ 0 ≤ th ∧ th < tth T M ∧ 0 ≤ hf ∧ hf ≤ 1 ∧ M < pe ∧ pe ≤ 1073741824 := by simp [tC, and_assoc]
theorem tooth_or (T M t th hf pe : Int) : ((((((!(decide ((if (wValid T M) = true then (if (((decide ((0 : Int) ≤ th)) && (decide (th < (tth T M)))) = true) then (0 : Int) else (2 : Int)) else (1 : Int)) = (0 : Int)))) || (!(isT t))) || (decide (hf < (0 : Int)))) || (decide ((1 : Int) < hf))) || (decide (pe < M + 1))) || (decide ((1073741824 : Int) < pe))) = !(if (wValid T M) = true then tC T M t th hf pe else false) := by
  by_cases h : wValid T M = true
  · simp only [h, if_true]
    unfold tC
    cases hT : isT t with
    | true => rw [Bool.eq_iff_iff]; simp <;> omega
    | false => simp
  · simp [h]
theorem tooth_or2 (T M t th hf pe : Int) : (((((((!(isT t)) || (decide (th < (0 : Int)))) || (decide ((tth T M) ≤ th))) || (decide (hf < (0 : Int)))) || (decide ((1 : Int) < hf))) || (decide (pe ≤ M))) || (decide ((1073741824 : Int) < pe))) = !tC T M t th hf pe := by
  unfold tC
  cases hT : isT t with
  | true => rw [Bool.eq_iff_iff]; simp <;> omega
  | false => simp
theorem toOk_iff {T M t th hf pe : Int} : toOk T M t th hf pe = true ↔ wValid T M = true ∧ tC T M t th hf pe = true := by
  unfold toOk toErr
  by_cases h : wValid T M = true
  · simp only [h, if_true, ← tC_eq, true_and]
    by_cases hc : tC T M t th hf pe = true <;> simp [hc]
  · simp [h]
theorem tooth_valid (T M t th hf pe : Int) : cValid (toOk T M t th hf pe) (toAt T M t th hf pe) (toAn T M t th hf pe) (toPe T M t th hf pe) (toSp T M t th hf pe) (toAh T M t th hf pe) = true := by
  unfold toAt toAn toPe toSp toAh
  cases ho : toOk T M t th hf pe with
  | false => simp [cValid]
  | true =>
    obtain ⟨h, hC⟩ := toOk_iff.1 ho
    obtain ⟨b0, b1, b2, b3⟩ := spc_bd h
    have hh := wValid_iff.1 h
    have hm : tth T M = T - M := by unfold tth; rw [if_pos h]
    obtain ⟨c1, c2, c3, c4, c5, c6, c7⟩ := tC_iff.1 hC
    have ht := isT_iff.1 c1
    simp only [cValid, if_true]
    rw [cKnown_iff]
    have hth : th * spc T M ≤ 23040 - spc T M := by
      have h1 := Int.mul_le_mul_of_nonneg_right (show th ≤ T - 1 by omega) (show 0 ≤ spc T M by omega)
      have h2 : (T - 1) * spc T M = 23040 - spc T M := by rw [Int.sub_mul, Int.mul_comm T, b2]; omega
      omega
    have hth0 : 0 ≤ th * spc T M := Int.mul_nonneg c2 (by omega)
    have hpe : 1 ≤ (if th = 0 then pe / (M + 1) else pe) ∧ (if th = 0 then pe / (M + 1) else pe) ≤ 1073741824 := by
      rcases hh.1 with rfl | rfl <;> split <;> omega
    have hah : ((if th = tth T M - 1 then (M + 1) * spc T M else spc T M) = spc T M ∨ (if th = tth T M - 1 then (M + 1) * spc T M else spc T M) = 2 * spc T M) ∨ (if th = tth T M - 1 then (M + 1) * spc T M else spc T M) = 3 * spc T M := by
      rcases hh.1 with rfl | rfl <;> split <;> omega
    exact ⟨ht, by omega, by omega, hpe.1, hpe.2, b0, b1, hah⟩
def atooth_res (T : Int) (M : Int) (t : Int) (th : Int) (hf : Int) (pe : Int) : CRes := ⟨[], .tup [.agg [.bool (toOk T M t th hf pe), .int .i64 (toAt T M t th hf pe), .int .i64 (toAn T M t th hf pe), .int .i64 (toPe T M t th hf pe), .int .i64 (toSp T M t th hf pe), .int .i64 (toAh T M t th hf pe)], .cel (.int .i64 (toErr T M t th hf pe))], []⟩
def atooth_go : List TV → List RowA → List (List CV) → Option CRes := fun args rows caps =>
  match args, rows, caps with
  | [.agg [.int .i64 T, .int .i64 M], .cel (.int .i64 t), .cel (.int .i64 th), .cel (.int .i64 hf), .cel (.int .i64 pe)], [], [] => some (atooth_res T M t th hf pe)
  | _, _, _ => none
def atooth_e : Ent := ⟨16, [], atooth_go⟩
set_option maxRecDepth 100000 in
theorem atooth_tree (T : Int) (M : Int) (t : Int) (th : Int) (hf : Int) (pe : Int) : ((cnd (!(wValid T M))
  (((Bool.false = (toOk T M t th hf pe)) ∧ (((0 : Int) = (toAt T M t th hf pe)) ∧ (((0 : Int) = (toAn T M t th hf pe)) ∧ (((0 : Int) = (toPe T M t th hf pe)) ∧ (((0 : Int) = (toSp T M t th hf pe)) ∧ ((0 : Int) = (toAh T M t th hf pe))))))) ∧ ((1 : Int) = (toErr T M t th hf pe)))
  (cnd ((((((!(decide ((if ((wValid T M) = Bool.true) then (if (((decide ((0 : Int) ≤ th)) && (decide (th < (tth T M)))) = Bool.true) then (0 : Int) else (2 : Int)) else (1 : Int)) = (0 : Int)))) || (!(isT t))) || (decide (hf < (0 : Int)))) || (decide ((1 : Int) < hf))) || (decide (pe < (Go.IntKind.wrap Go.IntKind.i64 (M + (1 : Int)))))) || (decide ((1073741824 : Int) < pe)))
    (((Bool.false = (toOk T M t th hf pe)) ∧ (((0 : Int) = (toAt T M t th hf pe)) ∧ (((0 : Int) = (toAn T M t th hf pe)) ∧ (((0 : Int) = (toPe T M t th hf pe)) ∧ (((0 : Int) = (toSp T M t th hf pe)) ∧ ((0 : Int) = (toAh T M t th hf pe))))))) ∧ ((2 : Int) = (toErr T M t th hf pe)))
    (cnd (decide (th = (0 : Int)))
      (cnd (decide ((Go.IntKind.wrap Go.IntKind.i64 (M + (1 : Int))) ≠ (0 : Int)))
        (cnd (decide (th = (Go.IntKind.wrap Go.IntKind.i64 ((tth T M) - (1 : Int)))))
          (((Bool.true = (toOk T M t th hf pe)) ∧ ((t = (toAt T M t th hf pe)) ∧ (((Go.IntKind.wrap Go.IntKind.i64 ((Go.IntKind.wrap Go.IntKind.i64 (hf * (23040 : Int))) + (if ((((wValid T M) && (decide ((0 : Int) ≤ th))) && (decide (th < (tth T M)))) = Bool.true) then (th * (spc T M)) else (0 : Int)))) = (toAn T M t th hf pe)) ∧ (((Go.IntKind.wrap Go.IntKind.i64 (Int.tdiv pe (Go.IntKind.wrap Go.IntKind.i64 (M + (1 : Int))))) = (toPe T M t th hf pe)) ∧ (((spc T M) = (toSp T M t th hf pe)) ∧ ((Go.IntKind.wrap Go.IntKind.i64 ((spc T M) * (Go.IntKind.wrap Go.IntKind.i64 (M + (1 : Int))))) = (toAh T M t th hf pe))))))) ∧ ((0 : Int) = (toErr T M t th hf pe)))
          (((Bool.true = (toOk T M t th hf pe)) ∧ ((t = (toAt T M t th hf pe)) ∧ (((Go.IntKind.wrap Go.IntKind.i64 ((Go.IntKind.wrap Go.IntKind.i64 (hf * (23040 : Int))) + (if ((((wValid T M) && (decide ((0 : Int) ≤ th))) && (decide (th < (tth T M)))) = Bool.true) then (th * (spc T M)) else (0 : Int)))) = (toAn T M t th hf pe)) ∧ (((Go.IntKind.wrap Go.IntKind.i64 (Int.tdiv pe (Go.IntKind.wrap Go.IntKind.i64 (M + (1 : Int))))) = (toPe T M t th hf pe)) ∧ (((spc T M) = (toSp T M t th hf pe)) ∧ ((spc T M) = (toAh T M t th hf pe))))))) ∧ ((0 : Int) = (toErr T M t th hf pe))))
        False)
      (cnd (decide (th = (Go.IntKind.wrap Go.IntKind.i64 ((tth T M) - (1 : Int)))))
        (((Bool.true = (toOk T M t th hf pe)) ∧ ((t = (toAt T M t th hf pe)) ∧ (((Go.IntKind.wrap Go.IntKind.i64 ((Go.IntKind.wrap Go.IntKind.i64 (hf * (23040 : Int))) + (if ((((wValid T M) && (decide ((0 : Int) ≤ th))) && (decide (th < (tth T M)))) = Bool.true) then (th * (spc T M)) else (0 : Int)))) = (toAn T M t th hf pe)) ∧ ((pe = (toPe T M t th hf pe)) ∧ (((spc T M) = (toSp T M t th hf pe)) ∧ ((Go.IntKind.wrap Go.IntKind.i64 ((spc T M) * (Go.IntKind.wrap Go.IntKind.i64 (M + (1 : Int))))) = (toAh T M t th hf pe))))))) ∧ ((0 : Int) = (toErr T M t th hf pe)))
        (((Bool.true = (toOk T M t th hf pe)) ∧ ((t = (toAt T M t th hf pe)) ∧ (((Go.IntKind.wrap Go.IntKind.i64 ((Go.IntKind.wrap Go.IntKind.i64 (hf * (23040 : Int))) + (if ((((wValid T M) && (decide ((0 : Int) ≤ th))) && (decide (th < (tth T M)))) = Bool.true) then (th * (spc T M)) else (0 : Int)))) = (toAn T M t th hf pe)) ∧ ((pe = (toPe T M t th hf pe)) ∧ (((spc T M) = (toSp T M t th hf pe)) ∧ ((spc T M) = (toAh T M t th hf pe))))))) ∧ ((0 : Int) = (toErr T M t th hf pe)))))))) = EXD Try.prog (conOf [wvalid_e, wangle_e, wspace_e, wteeth_e, isTime_e]) Try.f16 [.agg [.int .i64 T, .int .i64 M], .cel (.int .i64 t), .cel (.int .i64 th), .cel (.int .i64 hf), .cel (.int .i64 pe)] [] [] (atooth_res T M t th hf pe) := by kernel_rfl
theorem atooth_holds (T : Int) (M : Int) (t : Int) (th : Int) (hf : Int) (pe : Int)  : (cnd (!(wValid T M))
  (((Bool.false = (toOk T M t th hf pe)) ∧ (((0 : Int) = (toAt T M t th hf pe)) ∧ (((0 : Int) = (toAn T M t th hf pe)) ∧ (((0 : Int) = (toPe T M t th hf pe)) ∧ (((0 : Int) = (toSp T M t th hf pe)) ∧ ((0 : Int) = (toAh T M t th hf pe))))))) ∧ ((1 : Int) = (toErr T M t th hf pe)))
  (cnd ((((((!(decide ((if ((wValid T M) = Bool.true) then (if (((decide ((0 : Int) ≤ th)) && (decide (th < (tth T M)))) = Bool.true) then (0 : Int) else (2 : Int)) else (1 : Int)) = (0 : Int)))) || (!(isT t))) || (decide (hf < (0 : Int)))) || (decide ((1 : Int) < hf))) || (decide (pe < (Go.IntKind.wrap Go.IntKind.i64 (M + (1 : Int)))))) || (decide ((1073741824 : Int) < pe)))
    (((Bool.false = (toOk T M t th hf pe)) ∧ (((0 : Int) = (toAt T M t th hf pe)) ∧ (((0 : Int) = (toAn T M t th hf pe)) ∧ (((0 : Int) = (toPe T M t th hf pe)) ∧ (((0 : Int) = (toSp T M t th hf pe)) ∧ ((0 : Int) = (toAh T M t th hf pe))))))) ∧ ((2 : Int) = (toErr T M t th hf pe)))
    (cnd (decide (th = (0 : Int)))
      (cnd (decide ((Go.IntKind.wrap Go.IntKind.i64 (M + (1 : Int))) ≠ (0 : Int)))
        (cnd (decide (th = (Go.IntKind.wrap Go.IntKind.i64 ((tth T M) - (1 : Int)))))
          (((Bool.true = (toOk T M t th hf pe)) ∧ ((t = (toAt T M t th hf pe)) ∧ (((Go.IntKind.wrap Go.IntKind.i64 ((Go.IntKind.wrap Go.IntKind.i64 (hf * (23040 : Int))) + (if ((((wValid T M) && (decide ((0 : Int) ≤ th))) && (decide (th < (tth T M)))) = Bool.true) then (th * (spc T M)) else (0 : Int)))) = (toAn T M t th hf pe)) ∧ (((Go.IntKind.wrap Go.IntKind.i64 (Int.tdiv pe (Go.IntKind.wrap Go.IntKind.i64 (M + (1 : Int))))) = (toPe T M t th hf pe)) ∧ (((spc T M) = (toSp T M t th hf pe)) ∧ ((Go.IntKind.wrap Go.IntKind.i64 ((spc T M) * (Go.IntKind.wrap Go.IntKind.i64 (M + (1 : Int))))) = (toAh T M t th hf pe))))))) ∧ ((0 : Int) = (toErr T M t th hf pe)))
          (((Bool.true = (toOk T M t th hf pe)) ∧ ((t = (toAt T M t th hf pe)) ∧ (((Go.IntKind.wrap Go.IntKind.i64 ((Go.IntKind.wrap Go.IntKind.i64 (hf * (23040 : Int))) + (if ((((wValid T M) && (decide ((0 : Int) ≤ th))) && (decide (th < (tth T M)))) = Bool.true) then (th * (spc T M)) else (0 : Int)))) = (toAn T M t th hf pe)) ∧ (((Go.IntKind.wrap Go.IntKind.i64 (Int.tdiv pe (Go.IntKind.wrap Go.IntKind.i64 (M + (1 : Int))))) = (toPe T M t th hf pe)) ∧ (((spc T M) = (toSp T M t th hf pe)) ∧ ((spc T M) = (toAh T M t th hf pe))))))) ∧ ((0 : Int) = (toErr T M t th hf pe))))
        False)
      (cnd (decide (th = (Go.IntKind.wrap Go.IntKind.i64 ((tth T M) - (1 : Int)))))
        (((Bool.true = (toOk T M t th hf pe)) ∧ ((t = (toAt T M t th hf pe)) ∧ (((Go.IntKind.wrap Go.IntKind.i64 ((Go.IntKind.wrap Go.IntKind.i64 (hf * (23040 : Int))) + (if ((((wValid T M) && (decide ((0 : Int) ≤ th))) && (decide (th < (tth T M)))) = Bool.true) then (th * (spc T M)) else (0 : Int)))) = (toAn T M t th hf pe)) ∧ ((pe = (toPe T M t th hf pe)) ∧ (((spc T M) = (toSp T M t th hf pe)) ∧ ((Go.IntKind.wrap Go.IntKind.i64 ((spc T M) * (Go.IntKind.wrap Go.IntKind.i64 (M + (1 : Int))))) = (toAh T M t th hf pe))))))) ∧ ((0 : Int) = (toErr T M t th hf pe)))
        (((Bool.true = (toOk T M t th hf pe)) ∧ ((t = (toAt T M t th hf pe)) ∧ (((Go.IntKind.wrap Go.IntKind.i64 ((Go.IntKind.wrap Go.IntKind.i64 (hf * (23040 : Int))) + (if ((((wValid T M) && (decide ((0 : Int) ≤ th))) && (decide (th < (tth T M)))) = Bool.true) then (th * (spc T M)) else (0 : Int)))) = (toAn T M t th hf pe)) ∧ ((pe = (toPe T M t th hf pe)) ∧ (((spc T M) = (toSp T M t th hf pe)) ∧ ((spc T M) = (toAh T M t th hf pe))))))) ∧ ((0 : Int) = (toErr T M t th hf pe))))))) := by
  by_cases h : wValid T M = true
  · obtain ⟨b0, b1, b2, b3⟩ := spc_bd h
    have hh := wValid_iff.1 h
    have hm : tth T M = T - M := by unfold tth; rw [if_pos h]
    rw [w64 (n := M + 1) (by omega) (by omega), w64 (n := tth T M - 1) (by omega) (by omega)]
    have j0 : decide (M + 1 ≠ 0) = true := by simp; omega
    have hor := tooth_or T M t th hf pe
    simp only [h, Bool.not_true, if_true, cnd, Bool.true_and, j0]
    try simp only [h, if_true] at hor
    rw [hor]
    cases hC : tC T M t th hf pe with
    | true =>
      have e0 : toErr T M t th hf pe = 0 := by unfold toErr; rw [if_pos h]; simp only [← tC_eq, hC, if_true]
      have e1 : toOk T M t th hf pe = true := by simp [toOk, e0]
      obtain ⟨c1, c2, c3, c4, c5, c6, c7⟩ := tC_iff.1 hC
      have hb := mul_bd (a := th) (b := spc T M) (A := 120) (B := 1920) c2 (by omega) (by omega) b1
      have d1 : (decide (0 ≤ th) && decide (th < tth T M)) = true := by simp [c2, c3]
      have hp : Int.tdiv pe (M + 1) = pe / (M + 1) := tdiv_pos (by omega)
      have hp2 : IntKind.i64.wrap (pe / (M + 1)) = pe / (M + 1) := by
        have := quo_pos (x := pe) (y := M + 1) (by omega) (by omega)
        exact w64 (by omega) (by omega)
      have hq : IntKind.i64.wrap (spc T M * (M + 1)) = (M + 1) * spc T M := by
        rcases hh.1 with rfl | rfl
        · rw [w64 (by omega) (by omega)] <;> omega
        · rw [w64 (by omega) (by omega)] <;> omega
      have ha : IntKind.i64.wrap (IntKind.i64.wrap (hf * 23040) + th * spc T M) = hf * 23040 + th * spc T M := by
        rw [w64 (n := hf * 23040) (by omega) (by omega), w64 (by omega) (by omega)]
      skip
      simp only [d1, hp, hp2, hq, ha, e0, e1, toAt, toAn, toPe, toSp, toAh, Bool.not_true, if_true]
      by_cases x1 : th = 0
      · by_cases x2 : th = tth T M - 1
        · have y1 : decide (th = 0) = true := by simpa using x1
          have y2 : decide (th = tth T M - 1) = true := by simpa using x2
          simp only [y1, y2, if_pos x1, if_pos x2, and_self]
        · have y1 : decide (th = 0) = true := by simpa using x1
          have y2 : decide (th = tth T M - 1) = false := by simpa using x2
          simp only [y1, y2, if_pos x1, if_neg x2, and_self]
      · by_cases x2 : th = tth T M - 1
        · have y1 : decide (th = 0) = false := by simpa using x1
          have y2 : decide (th = tth T M - 1) = true := by simpa using x2
          simp only [y1, y2, if_neg x1, if_pos x2, and_self]
        · have y1 : decide (th = 0) = false := by simpa using x1
          have y2 : decide (th = tth T M - 1) = false := by simpa using x2
          simp only [y1, y2, if_neg x1, if_neg x2, and_self]
    | false =>
      have e0 : toErr T M t th hf pe = 2 := by unfold toErr; rw [if_pos h]; simp only [← tC_eq, hC, Bool.false_eq_true, if_false]
      have e1 : toOk T M t th hf pe = false := by simp [toOk, e0]
      simp [e0, e1, toAt, toAn, toPe, toSp, toAh]
  · have h : wValid T M = false := by simpa using h
    have e0 : toErr T M t th hf pe = 1 := by simp [toErr, h]
    have e1 : toOk T M t th hf pe = false := by simp [toOk, e0]
    simp [h, cnd, e0, e1, toAt, toAn, toPe, toSp, toAh]
set_option maxHeartbeats 2000000 in
theorem atooth_ok : SoundEnt Try.prog atooth_e := by
  refine ent_of_ex (Γ := (conOf [wvalid_e, wangle_e, wspace_e, wteeth_e, isTime_e])) (conOf_sound (scons wvalid_ok (scons wangle_ok (scons wspace_ok (scons wteeth_ok (scons isTime_ok snil)))))) (by kernel_rfl) Try.func16 (by kernel_rfl) (by kernel_rfl) (fun args rows caps res h ho => ?_)
  change atooth_go args rows caps = some res at h
  unfold atooth_go at h
  split at h
  · simp only [Option.some.injEq] at h
    subst h
    rename_i q0_ q1_ q2_ q3_ q4_ q5_
    skip
    exact EX.of (atooth_tree q0_ q1_ q2_ q3_ q4_ q5_) (atooth_holds q0_ q1_ q2_ q3_ q4_ q5_)
  · cases h
def rtime_res (t : Int) : CRes := ⟨[], .one (.cel (.bool (isT t))), []⟩
def rtime_go : List TV → List RowA → List (List CV) → Option CRes := fun args rows caps =>
  match args, rows, caps with
  | [.cel (.int .i64 t)], [], [] => some (rtime_res t)
  | _, _, _ => none
def rtime_e : Ent := ⟨33, [], rtime_go⟩
set_option maxRecDepth 100000 in
theorem rtime_tree (t : Int) : ((((decide ((0 : Int) ≤ t)) && (decide (t ≤ (1099511627776 : Int)))) = (isT t))) = EXD Try.prog (conOf []) Try.f33 [.cel (.int .i64 t)] [] [] (rtime_res t) := by kernel_rfl
theorem rtime_holds (t : Int)  : (((decide ((0 : Int) ≤ t)) && (decide (t ≤ (1099511627776 : Int)))) = (isT t)) := by
  simp [condF, isT]
set_option maxHeartbeats 2000000 in
theorem rtime_ok : SoundEnt Try.prog rtime_e := by
  refine ent_of_ex (Γ := (conOf [])) (conOf_sound snil) (by kernel_rfl) Try.func33 (by kernel_rfl) (by kernel_rfl) (fun args rows caps res h ho => ?_)
  change rtime_go args rows caps = some res at h
  unfold rtime_go at h
  split at h
  · simp only [Option.some.injEq] at h
    subst h
    rename_i q0_
    skip
    exact EX.of (rtime_tree q0_) (rtime_holds q0_)
  · cases h
def rcvalid_res (v : Bool) (a0 : Int) (an : Int) (pe : Int) (sp : Int) (ah : Int) : CRes := ⟨[], .one (.cel (.bool (cValid v a0 an pe sp ah))), []⟩
def rcvalid_go : List TV → List RowA → List (List CV) → Option CRes := fun args rows caps =>
  match args, rows, caps with
  | [.agg [.bool v, .int .i64 a0, .int .i64 an, .int .i64 pe, .int .i64 sp, .int .i64 ah]], [], [] => some (rcvalid_res v a0 an pe sp ah)
  | _, _, _ => none
def rcvalid_e : Ent := ⟨19, [], rcvalid_go⟩
set_option maxRecDepth 100000 in
theorem rcvalid_tree (v : Bool) (a0 : Int) (an : Int) (pe : Int) (sp : Int) (ah : Int) : ((cnd (!v)
  (((v == Bool.false) && ((decide (a0 = (0 : Int))) && ((decide (an = (0 : Int))) && ((decide (pe = (0 : Int))) && ((decide (sp = (0 : Int))) && ((decide (ah = (0 : Int))) && Bool.true)))))) = (cValid v a0 an pe sp ah))
  (((((((((isT a0) && (decide ((0 : Int) ≤ an))) && (decide (an < (46080 : Int)))) && (decide ((1 : Int) ≤ pe))) && (decide (pe ≤ (1073741824 : Int)))) && (decide ((192 : Int) ≤ sp))) && (decide (sp ≤ (1920 : Int)))) && (((decide (ah = sp)) || (decide (ah = (Go.IntKind.wrap Go.IntKind.i64 ((2 : Int) * sp))))) || (decide (ah = (Go.IntKind.wrap Go.IntKind.i64 ((3 : Int) * sp)))))) = (cValid v a0 an pe sp ah)))) = EXD Try.prog (conOf [rtime_e]) Try.f19 [.agg [.bool v, .int .i64 a0, .int .i64 an, .int .i64 pe, .int .i64 sp, .int .i64 ah]] [] [] (rcvalid_res v a0 an pe sp ah) := by kernel_rfl
theorem rcvalid_holds (v : Bool) (a0 : Int) (an : Int) (pe : Int) (sp : Int) (ah : Int)  : (cnd (!v)
  (((v == Bool.false) && ((decide (a0 = (0 : Int))) && ((decide (an = (0 : Int))) && ((decide (pe = (0 : Int))) && ((decide (sp = (0 : Int))) && ((decide (ah = (0 : Int))) && Bool.true)))))) = (cValid v a0 an pe sp ah))
  (((((((((isT a0) && (decide ((0 : Int) ≤ an))) && (decide (an < (46080 : Int)))) && (decide ((1 : Int) ≤ pe))) && (decide (pe ≤ (1073741824 : Int)))) && (decide ((192 : Int) ≤ sp))) && (decide (sp ≤ (1920 : Int)))) && (((decide (ah = sp)) || (decide (ah = (Go.IntKind.wrap Go.IntKind.i64 ((2 : Int) * sp))))) || (decide (ah = (Go.IntKind.wrap Go.IntKind.i64 ((3 : Int) * sp)))))) = (cValid v a0 an pe sp ah))) := by
  cases v with
  | false => simp [cnd, cValid, Bool.and_assoc]
  | true =>
    simp only [cValid, Bool.not_true, cnd, if_true]
    by_cases hs : 192 ≤ sp ∧ sp ≤ 1920
    · rw [w64 (n := 2 * sp) (by omega) (by omega), w64 (n := 3 * sp) (by omega) (by omega)]
      rfl
    · have j : (decide (192 ≤ sp) && decide (sp ≤ 1920)) = false := by simp; omega
      simp only [cKnown, Bool.and_assoc]
      by_cases h1 : 192 ≤ sp
      · have h2 : decide (sp ≤ 1920) = false := by simp; omega
        simp [h2]
      · have h2 : decide (192 ≤ sp) = false := by simpa using h1
        simp [h2]
set_option maxHeartbeats 2000000 in
theorem rcvalid_ok : SoundEnt Try.prog rcvalid_e := by
  refine ent_of_ex (Γ := (conOf [rtime_e])) (conOf_sound (scons rtime_ok snil)) (by kernel_rfl) Try.func19 (by kernel_rfl) (by kernel_rfl) (fun args rows caps res h ho => ?_)
  change rcvalid_go args rows caps = some res at h
  unfold rcvalid_go at h
  split at h
  · simp only [Option.some.injEq] at h
    subst h
    rename_i q0_ q1_ q2_ q3_ q4_ q5_
    skip
    exact EX.of (rcvalid_tree q0_ q1_ q2_ q3_ q4_ q5_) (rcvalid_holds q0_ q1_ q2_ q3_ q4_ q5_)
  · cases h
def rfault_res (v : Bool) (a0 : Int) (an : Int) (pe : Int) (sp : Int) (ah : Int) : CRes := ⟨[], .one (.cel (.int .i64 (cErr v a0 an pe sp ah))), []⟩
def rfault_go : List TV → List RowA → List (List CV) → Option CRes := fun args rows caps =>
  match args, rows, caps with
  | [.agg [.bool v, .int .i64 a0, .int .i64 an, .int .i64 pe, .int .i64 sp, .int .i64 ah]], [], [] => some (rfault_res v a0 an pe sp ah)
  | _, _, _ => none
def rfault_e : Ent := ⟨32, [], rfault_go⟩
set_option maxRecDepth 100000 in
theorem rfault_tree (v : Bool) (a0 : Int) (an : Int) (pe : Int) (sp : Int) (ah : Int) : ((cnd (!(cValid v a0 an pe sp ah))
  ((1 : Int) = (cErr v a0 an pe sp ah))
  (cnd (!v)
    ((6 : Int) = (cErr v a0 an pe sp ah))
    ((0 : Int) = (cErr v a0 an pe sp ah))))) = EXD Try.prog (conOf [rcvalid_e]) Try.f32 [.agg [.bool v, .int .i64 a0, .int .i64 an, .int .i64 pe, .int .i64 sp, .int .i64 ah]] [] [] (rfault_res v a0 an pe sp ah) := by kernel_rfl
theorem rfault_holds (v : Bool) (a0 : Int) (an : Int) (pe : Int) (sp : Int) (ah : Int)  : (cnd (!(cValid v a0 an pe sp ah))
  ((1 : Int) = (cErr v a0 an pe sp ah))
  (cnd (!v)
    ((6 : Int) = (cErr v a0 an pe sp ah))
    ((0 : Int) = (cErr v a0 an pe sp ah)))) := by
  unfold cErr
  (repeat' (first | with_reducible rfl | trivial | (refine cnd_i (fun h => ?_) (fun h => ?_)) | (refine And.intro ?_ ?_) | (intro h)))
  all_goals (simp_all)
set_option maxHeartbeats 2000000 in
theorem rfault_ok : SoundEnt Try.prog rfault_e := by
  refine ent_of_ex (Γ := (conOf [rcvalid_e])) (conOf_sound (scons rcvalid_ok snil)) (by kernel_rfl) Try.func32 (by kernel_rfl) (by kernel_rfl) (fun args rows caps res h ho => ?_)
  change rfault_go args rows caps = some res at h
  unfold rfault_go at h
  split at h
  · simp only [Option.some.injEq] at h
    subst h
    rename_i q0_ q1_ q2_ q3_ q4_ q5_
    skip
    exact EX.of (rfault_tree q0_ q1_ q2_ q3_ q4_ q5_) (rfault_holds q0_ q1_ q2_ q3_ q4_ q5_)
  · cases h
def rup_res (a : Int) (b : Int) : CRes := ⟨[decide (0 ≤ a), inBig a, decide (1 ≤ b), decide (b ≤ 1000000)], .one (.cel (.int .i64 (upq a b))), []⟩
def rup_go : List TV → List RowA → List (List CV) → Option CRes := fun args rows caps =>
  match args, rows, caps with
  | [.cel (.int .i64 a), .cel (.int .i64 b)], [], [] => some (rup_res a b)
  | _, _, _ => none
def rup_e : Ent := ⟨35, [], rup_go⟩
set_option maxRecDepth 100000 in
theorem rup_tree (a : Int) (b : Int) : ((cnd (decide (b ≠ (0 : Int)))
  ((Go.IntKind.wrap Go.IntKind.i64 (Int.tdiv (Go.IntKind.wrap Go.IntKind.i64 ((Go.IntKind.wrap Go.IntKind.i64 (a + b)) - (1 : Int))) b)) = (upq a b))
  False)) = EXD Try.prog (conOf []) Try.f35 [.cel (.int .i64 a), .cel (.int .i64 b)] [] [] (rup_res a b) := by kernel_rfl
theorem rup_holds (a : Int) (b : Int) (p0 : decide (0 ≤ a) = true) (p1 : inBig a = true) (p2 : decide (1 ≤ b) = true) (p3 : decide (b ≤ 1000000) = true) : (cnd (decide (b ≠ (0 : Int)))
  ((Go.IntKind.wrap Go.IntKind.i64 (Int.tdiv (Go.IntKind.wrap Go.IntKind.i64 ((Go.IntKind.wrap Go.IntKind.i64 (a + b)) - (1 : Int))) b)) = (upq a b))
  False) := by
  rw [inBig_iff] at p1
  simp only [decide_eq_true_eq] at p0 p2 p3
  have j : decide (b ≠ 0) = true := by simp; omega
  rw [w64 (n := a + b) (by omega) (by omega), w64 (n := a + b - 1) (by omega) (by omega), show Int.tdiv (a + b - 1) b = (a + b - 1) / b from tdiv_pos (by omega)]
  have hq := quo_pos (x := a + b - 1) (y := b) (by omega) p2
  rw [w64 (n := (a + b - 1) / b) (by omega) (by omega)]
  simp only [j, cnd]
  unfold upq
  rw [neg_quo a b p2]
  have h3 := Int.emod_add_mul_ediv a b
  have h4 := quo_pos p0 p2
  generalize a / b = q at *
  generalize a % b = r at *
  have e : a + b - 1 = (r + b - 1) + b * q := by omega
  rw [e, Int.add_mul_ediv_left _ _ (by omega)]
  by_cases hr : r = 0
  · rw [if_pos hr, hr, Int.ediv_eq_zero_of_lt (by omega) (by omega)]; omega
  · rw [if_neg hr]
    have e2 : r + b - 1 = (r - 1) + b * 1 := by omega
    rw [e2, Int.add_mul_ediv_left _ _ (by omega), Int.ediv_eq_zero_of_lt (by omega) (by omega)]; omega
set_option maxHeartbeats 2000000 in
theorem rup_ok : SoundEnt Try.prog rup_e := by
  refine ent_of_ex (Γ := (conOf [])) (conOf_sound snil) (by kernel_rfl) Try.func35 (by kernel_rfl) (by kernel_rfl) (fun args rows caps res h ho => ?_)
  change rup_go args rows caps = some res at h
  unfold rup_go at h
  split at h
  · simp only [Option.some.injEq] at h
    subst h
    rename_i q0_ q1_
    obtain ⟨p0, p1, p2, p3, _⟩ := ho
    exact EX.of (rup_tree q0_ q1_) (rup_holds q0_ q1_ p0 p1 p2 p3)
  · cases h
def rat_res (v : Bool) (a0 : Int) (an : Int) (pe : Int) (sp : Int) (ah : Int) (t : Int) : CRes := ⟨[], .tup [.cel (.int .i64 (atA v a0 an pe sp ah t)), .cel (.int .i64 (atErr v a0 an pe sp ah t))], []⟩
def rat_go : List TV → List RowA → List (List CV) → Option CRes := fun args rows caps =>
  match args, rows, caps with
  | [.agg [.bool v, .int .i64 a0, .int .i64 an, .int .i64 pe, .int .i64 sp, .int .i64 ah], .cel (.int .i64 t)], [], [] => some (rat_res v a0 an pe sp ah t)
  | _, _, _ => none
def rat_e : Ent := ⟨12, [], rat_go⟩
set_option maxRecDepth 100000 in
theorem rat_tree (v : Bool) (a0 : Int) (an : Int) (pe : Int) (sp : Int) (ah : Int) (t : Int) : ((cnd (!(decide ((cErr v a0 an pe sp ah) = (0 : Int))))
  (((0 : Int) = (atA v a0 an pe sp ah t)) ∧ ((cErr v a0 an pe sp ah) = (atErr v a0 an pe sp ah t)))
  (cnd (!(isT t))
    (((0 : Int) = (atA v a0 an pe sp ah t)) ∧ ((2 : Int) = (atErr v a0 an pe sp ah t)))
    (cnd (decide (t < a0))
      (((0 : Int) = (atA v a0 an pe sp ah t)) ∧ ((16 : Int) = (atErr v a0 an pe sp ah t)))
      (cnd (decide (pe ≠ (0 : Int)))
        (((Int.tmod (Go.IntKind.wrap Go.IntKind.i64 (an + (gmin ah (Go.IntKind.wrap Go.IntKind.i64 (Int.tdiv (Go.IntKind.wrap Go.IntKind.i64 ((Go.IntKind.wrap Go.IntKind.i64 (t - a0)) * sp)) pe))))) (46080 : Int)) = (atA v a0 an pe sp ah t)) ∧ ((0 : Int) = (atErr v a0 an pe sp ah t)))
        False))))) = EXD Try.prog (conOf [rtime_e, rfault_e]) Try.f12 [.agg [.bool v, .int .i64 a0, .int .i64 an, .int .i64 pe, .int .i64 sp, .int .i64 ah], .cel (.int .i64 t)] [] [] (rat_res v a0 an pe sp ah t) := by kernel_rfl
theorem rat_holds (v : Bool) (a0 : Int) (an : Int) (pe : Int) (sp : Int) (ah : Int) (t : Int)  : (cnd (!(decide ((cErr v a0 an pe sp ah) = (0 : Int))))
  (((0 : Int) = (atA v a0 an pe sp ah t)) ∧ ((cErr v a0 an pe sp ah) = (atErr v a0 an pe sp ah t)))
  (cnd (!(isT t))
    (((0 : Int) = (atA v a0 an pe sp ah t)) ∧ ((2 : Int) = (atErr v a0 an pe sp ah t)))
    (cnd (decide (t < a0))
      (((0 : Int) = (atA v a0 an pe sp ah t)) ∧ ((16 : Int) = (atErr v a0 an pe sp ah t)))
      (cnd (decide (pe ≠ (0 : Int)))
        (((Int.tmod (Go.IntKind.wrap Go.IntKind.i64 (an + (gmin ah (Go.IntKind.wrap Go.IntKind.i64 (Int.tdiv (Go.IntKind.wrap Go.IntKind.i64 ((Go.IntKind.wrap Go.IntKind.i64 (t - a0)) * sp)) pe))))) (46080 : Int)) = (atA v a0 an pe sp ah t)) ∧ ((0 : Int) = (atErr v a0 an pe sp ah t)))
        False)))) := by
  by_cases hz : cErr v a0 an pe sp ah = 0
  · obtain ⟨rfl, hk⟩ := cErr_zero.1 hz
    rw [cKnown_iff] at hk
    obtain ⟨⟨k1, k2⟩, k3, k4, k5, k6, k7, k8, k9⟩ := hk
    by_cases ht : isT t = true
    · have ht2 := isT_iff.1 ht
      by_cases hl : t < a0
      · simp [atA, atErr, hz, ht, hl, cnd]
      · have he : atErr true a0 an pe sp ah t = 0 := by simp [atErr, hz, ht, hl]
        have hb := mul_bd (a := t - a0) (b := sp) (A := 1099511627776) (B := 1920) (by omega) (by omega) (by omega) (by omega)
        have hq := quo_pos hb.1 k5
        have j : decide (pe ≠ 0) = true := by simp; omega
        rw [w64 (n := t - a0) (by omega) (by omega), w64 (n := (t - a0) * sp) (by omega) (by omega), show Int.tdiv ((t - a0) * sp) pe = (t - a0) * sp / pe from tdiv_pos hb.1, w64 (n := (t - a0) * sp / pe) (by omega) (by omega), gmin_eq, w64 (n := an + min ah ((t - a0) * sp / pe)) (by omega) (by omega), show Int.tmod (an + min ah ((t - a0) * sp / pe)) 46080 = (an + min ah ((t - a0) * sp / pe)) % 46080 from tmod_pos (by omega)]
        simp [atA, he, hz, ht, hl, cnd, j]
    · simp [atA, atErr, hz, ht, cnd]
  · simp [atA, atErr, hz, cnd]
set_option maxHeartbeats 2000000 in
theorem rat_ok : SoundEnt Try.prog rat_e := by
  refine ent_of_ex (Γ := (conOf [rtime_e, rfault_e])) (conOf_sound (scons rtime_ok (scons rfault_ok snil))) (by kernel_rfl) Try.func12 (by kernel_rfl) (by kernel_rfl) (fun args rows caps res h ho => ?_)
  change rat_go args rows caps = some res at h
  unfold rat_go at h
  split at h
  · simp only [Option.some.injEq] at h
    subst h
    rename_i q0_ q1_ q2_ q3_ q4_ q5_ q6_
    skip
    exact EX.of (rat_tree q0_ q1_ q2_ q3_ q4_ q5_ q6_) (rat_holds q0_ q1_ q2_ q3_ q4_ q5_ q6_)
  · cases h
def rtm_res (v : Bool) (a0 : Int) (an : Int) (pe : Int) (sp : Int) (ah : Int) (a : Int) : CRes := ⟨[], .tup [.cel (.int .i64 (tmT v a0 an pe sp ah a)), .cel (.int .i64 (tmErr v a0 an pe sp ah a))], []⟩
def rtm_go : List TV → List RowA → List (List CV) → Option CRes := fun args rows caps =>
  match args, rows, caps with
  | [.agg [.bool v, .int .i64 a0, .int .i64 an, .int .i64 pe, .int .i64 sp, .int .i64 ah], .cel (.int .i64 a)], [], [] => some (rtm_res v a0 an pe sp ah a)
  | _, _, _ => none
def rtm_e : Ent := ⟨14, [], rtm_go⟩
set_option maxRecDepth 100000 in
theorem rtm_tree (v : Bool) (a0 : Int) (an : Int) (pe : Int) (sp : Int) (ah : Int) (a : Int) : ((cnd (!(decide ((cErr v a0 an pe sp ah) = (0 : Int))))
  (((0 : Int) = (tmT v a0 an pe sp ah a)) ∧ ((cErr v a0 an pe sp ah) = (tmErr v a0 an pe sp ah a)))
  (cnd ((decide (a < (0 : Int))) || (decide ((46080 : Int) ≤ a)))
    (((0 : Int) = (tmT v a0 an pe sp ah a)) ∧ ((2 : Int) = (tmErr v a0 an pe sp ah a)))
    (cnd (decide (ah ≤ (Int.tmod (Go.IntKind.wrap Go.IntKind.i64 ((Go.IntKind.wrap Go.IntKind.i64 (a - an)) + (46080 : Int))) (46080 : Int))))
      (((0 : Int) = (tmT v a0 an pe sp ah a)) ∧ ((7 : Int) = (tmErr v a0 an pe sp ah a)))
      (cnd (decide ((0 : Int) ≤ (Go.IntKind.wrap Go.IntKind.i64 ((Int.tmod (Go.IntKind.wrap Go.IntKind.i64 ((Go.IntKind.wrap Go.IntKind.i64 (a - an)) + (46080 : Int))) (46080 : Int)) * pe))))
        (cnd (inBig (Go.IntKind.wrap Go.IntKind.i64 ((Int.tmod (Go.IntKind.wrap Go.IntKind.i64 ((Go.IntKind.wrap Go.IntKind.i64 (a - an)) + (46080 : Int))) (46080 : Int)) * pe)))
          (cnd (decide ((1 : Int) ≤ sp))
            (cnd (decide (sp ≤ (1000000 : Int)))
              (cnd (!(isT (Go.IntKind.wrap Go.IntKind.i64 (a0 + (upq (Go.IntKind.wrap Go.IntKind.i64 ((Int.tmod (Go.IntKind.wrap Go.IntKind.i64 ((Go.IntKind.wrap Go.IntKind.i64 (a - an)) + (46080 : Int))) (46080 : Int)) * pe)) sp)))))
                (((0 : Int) = (tmT v a0 an pe sp ah a)) ∧ ((2 : Int) = (tmErr v a0 an pe sp ah a)))
                (((Go.IntKind.wrap Go.IntKind.i64 (a0 + (upq (Go.IntKind.wrap Go.IntKind.i64 ((Int.tmod (Go.IntKind.wrap Go.IntKind.i64 ((Go.IntKind.wrap Go.IntKind.i64 (a - an)) + (46080 : Int))) (46080 : Int)) * pe)) sp))) = (tmT v a0 an pe sp ah a)) ∧ ((0 : Int) = (tmErr v a0 an pe sp ah a))))
              False)
            False)
          False)
        False))))) = EXD Try.prog (conOf [rtime_e, rfault_e, rup_e]) Try.f14 [.agg [.bool v, .int .i64 a0, .int .i64 an, .int .i64 pe, .int .i64 sp, .int .i64 ah], .cel (.int .i64 a)] [] [] (rtm_res v a0 an pe sp ah a) := by kernel_rfl
theorem rtm_holds (v : Bool) (a0 : Int) (an : Int) (pe : Int) (sp : Int) (ah : Int) (a : Int)  : (cnd (!(decide ((cErr v a0 an pe sp ah) = (0 : Int))))
  (((0 : Int) = (tmT v a0 an pe sp ah a)) ∧ ((cErr v a0 an pe sp ah) = (tmErr v a0 an pe sp ah a)))
  (cnd ((decide (a < (0 : Int))) || (decide ((46080 : Int) ≤ a)))
    (((0 : Int) = (tmT v a0 an pe sp ah a)) ∧ ((2 : Int) = (tmErr v a0 an pe sp ah a)))
    (cnd (decide (ah ≤ (Int.tmod (Go.IntKind.wrap Go.IntKind.i64 ((Go.IntKind.wrap Go.IntKind.i64 (a - an)) + (46080 : Int))) (46080 : Int))))
      (((0 : Int) = (tmT v a0 an pe sp ah a)) ∧ ((7 : Int) = (tmErr v a0 an pe sp ah a)))
      (cnd (decide ((0 : Int) ≤ (Go.IntKind.wrap Go.IntKind.i64 ((Int.tmod (Go.IntKind.wrap Go.IntKind.i64 ((Go.IntKind.wrap Go.IntKind.i64 (a - an)) + (46080 : Int))) (46080 : Int)) * pe))))
        (cnd (inBig (Go.IntKind.wrap Go.IntKind.i64 ((Int.tmod (Go.IntKind.wrap Go.IntKind.i64 ((Go.IntKind.wrap Go.IntKind.i64 (a - an)) + (46080 : Int))) (46080 : Int)) * pe)))
          (cnd (decide ((1 : Int) ≤ sp))
            (cnd (decide (sp ≤ (1000000 : Int)))
              (cnd (!(isT (Go.IntKind.wrap Go.IntKind.i64 (a0 + (upq (Go.IntKind.wrap Go.IntKind.i64 ((Int.tmod (Go.IntKind.wrap Go.IntKind.i64 ((Go.IntKind.wrap Go.IntKind.i64 (a - an)) + (46080 : Int))) (46080 : Int)) * pe)) sp)))))
                (((0 : Int) = (tmT v a0 an pe sp ah a)) ∧ ((2 : Int) = (tmErr v a0 an pe sp ah a)))
                (((Go.IntKind.wrap Go.IntKind.i64 (a0 + (upq (Go.IntKind.wrap Go.IntKind.i64 ((Int.tmod (Go.IntKind.wrap Go.IntKind.i64 ((Go.IntKind.wrap Go.IntKind.i64 (a - an)) + (46080 : Int))) (46080 : Int)) * pe)) sp))) = (tmT v a0 an pe sp ah a)) ∧ ((0 : Int) = (tmErr v a0 an pe sp ah a))))
              False)
            False)
          False)
        False)))) := by
  by_cases hz : cErr v a0 an pe sp ah = 0
  · obtain ⟨rfl, hk⟩ := cErr_zero.1 hz
    rw [cKnown_iff] at hk
    obtain ⟨⟨k1, k2⟩, k3, k4, k5, k6, k7, k8, k9⟩ := hk
    by_cases ha : 0 ≤ a ∧ a < 46080
    · have hd : Int.tmod (IntKind.i64.wrap (IntKind.i64.wrap (a - an) + 46080)) 46080 = tmD an a := by
        rw [w64 (n := a - an) (by omega) (by omega), w64 (n := a - an + 46080) (by omega) (by omega)]
        exact tmod_pos (by omega)
      have hd2 : 0 ≤ tmD an a ∧ tmD an a < 46080 := by unfold tmD; omega
      have j1 : (decide (a < 0) || decide (46080 ≤ a)) = false := by simp; omega
      rw [hd]
      have hb := mul_bd (a := tmD an a) (b := pe) (A := 46080) (B := 1073741824) (by omega) (by omega) (by omega) (by omega)
      rw [w64 (n := tmD an a * pe) (by omega) (by omega)]
      have hu := upq_bd hb.1 (show 1 ≤ sp by omega)
      rw [w64 (n := a0 + upq (tmD an a * pe) sp) (by omega) (by omega)]
      have i1 : inBig (tmD an a * pe) = true := inBig_iff.2 (by omega)
      have i2 : decide (sp ≤ 1000000) = true := by simp; omega
      have i3 : decide (0 ≤ tmD an a * pe) = true := by simpa using hb.1
      have i4 : decide (1 ≤ sp) = true := by simp; omega
      simp only [hz, decide_true, Bool.not_true, cnd, j1, i1, i2, i3, i4]
      by_cases hl : ah ≤ tmD an a
      · simp [tmT, tmErr, hz, ha.1, ha.2, hl]
      · by_cases ht : isT (a0 + upq (tmD an a * pe) sp) = true
        · simp [tmT, tmErr, hz, ha.1, ha.2, hl, ht]
        · simp [tmT, tmErr, hz, ha.1, ha.2, hl, ht]
    · have j1 : (decide (a < 0) || decide (46080 ≤ a)) = true := by simp; omega
      simp [tmT, tmErr, hz, ha, j1, cnd]
  · simp [tmT, tmErr, hz, cnd]
set_option maxHeartbeats 2000000 in
theorem rtm_ok : SoundEnt Try.prog rtm_e := by
  refine ent_of_ex (Γ := (conOf [rtime_e, rfault_e, rup_e])) (conOf_sound (scons rtime_ok (scons rfault_ok (scons rup_ok snil)))) (by kernel_rfl) Try.func14 (by kernel_rfl) (by kernel_rfl) (fun args rows caps res h ho => ?_)
  change rtm_go args rows caps = some res at h
  unfold rtm_go at h
  split at h
  · simp only [Option.some.injEq] at h
    subst h
    rename_i q0_ q1_ q2_ q3_ q4_ q5_ q6_
    skip
    exact EX.of (rtm_tree q0_ q1_ q2_ q3_ q4_ q5_ q6_) (rtm_holds q0_ q1_ q2_ q3_ q4_ q5_ q6_)
  · cases h
def rrpm_res (v : Bool) (a0 : Int) (an : Int) (pe : Int) (sp : Int) (ah : Int) : CRes := ⟨[], .one (.cel (.int .i64 (rpmOf v a0 an pe sp ah))), []⟩
def rrpm_go : List TV → List RowA → List (List CV) → Option CRes := fun args rows caps =>
  match args, rows, caps with
  | [.agg [.bool v, .int .i64 a0, .int .i64 an, .int .i64 pe, .int .i64 sp, .int .i64 ah]], [], [] => some (rrpm_res v a0 an pe sp ah)
  | _, _, _ => none
def rrpm_e : Ent := ⟨27, [], rrpm_go⟩
set_option maxRecDepth 100000 in
theorem rrpm_tree (v : Bool) (a0 : Int) (an : Int) (pe : Int) (sp : Int) (ah : Int) : ((cnd (!(decide ((cErr v a0 an pe sp ah) = (0 : Int))))
  ((0 : Int) = (rpmOf v a0 an pe sp ah))
  (cnd (decide ((Go.IntKind.wrap Go.IntKind.i64 (pe * (23040 : Int))) ≠ (0 : Int)))
    ((Go.IntKind.wrap Go.IntKind.i64 (Int.tdiv (Go.IntKind.wrap Go.IntKind.i64 ((60000000 : Int) * sp)) (Go.IntKind.wrap Go.IntKind.i64 (pe * (23040 : Int))))) = (rpmOf v a0 an pe sp ah))
    False))) = EXD Try.prog (conOf [rfault_e]) Try.f27 [.agg [.bool v, .int .i64 a0, .int .i64 an, .int .i64 pe, .int .i64 sp, .int .i64 ah]] [] [] (rrpm_res v a0 an pe sp ah) := by kernel_rfl
theorem rrpm_holds (v : Bool) (a0 : Int) (an : Int) (pe : Int) (sp : Int) (ah : Int)  : (cnd (!(decide ((cErr v a0 an pe sp ah) = (0 : Int))))
  ((0 : Int) = (rpmOf v a0 an pe sp ah))
  (cnd (decide ((Go.IntKind.wrap Go.IntKind.i64 (pe * (23040 : Int))) ≠ (0 : Int)))
    ((Go.IntKind.wrap Go.IntKind.i64 (Int.tdiv (Go.IntKind.wrap Go.IntKind.i64 ((60000000 : Int) * sp)) (Go.IntKind.wrap Go.IntKind.i64 (pe * (23040 : Int))))) = (rpmOf v a0 an pe sp ah))
    False)) := by
  by_cases hz : cErr v a0 an pe sp ah = 0
  · obtain ⟨rfl, hk⟩ := cErr_zero.1 hz
    rw [cKnown_iff] at hk
    obtain ⟨⟨k1, k2⟩, k3, k4, k5, k6, k7, k8, k9⟩ := hk
    have hq := quo_pos (x := 60000000 * sp) (y := pe * 23040) (by omega) (by omega)
    rw [w64 (n := pe * 23040) (by omega) (by omega), w64 (n := 60000000 * sp) (by omega) (by omega), show Int.tdiv (60000000 * sp) (pe * 23040) = 60000000 * sp / (pe * 23040) from tdiv_pos (by omega), w64 (n := 60000000 * sp / (pe * 23040)) (by omega) (by omega)]
    have j : decide (pe * 23040 ≠ 0) = true := by simp; omega
    simp only [hz, j, cnd, decide_true, Bool.not_true]
    simp [rpmOf, hz]
  · simp [rpmOf, hz, cnd]
set_option maxHeartbeats 2000000 in
theorem rrpm_ok : SoundEnt Try.prog rrpm_e := by
  refine ent_of_ex (Γ := (conOf [rfault_e])) (conOf_sound (scons rfault_ok snil)) (by kernel_rfl) Try.func27 (by kernel_rfl) (by kernel_rfl) (fun args rows caps res h ho => ?_)
  change rrpm_go args rows caps = some res at h
  unfold rrpm_go at h
  split at h
  · simp only [Option.some.injEq] at h
    subst h
    rename_i q0_ q1_ q2_ q3_ q4_ q5_
    skip
    exact EX.of (rrpm_tree q0_ q1_ q2_ q3_ q4_ q5_) (rrpm_holds q0_ q1_ q2_ q3_ q4_ q5_)
  · cases h
def rreach_res (v : Bool) (a0 : Int) (an : Int) (pe : Int) (sp : Int) (ah : Int) : CRes := ⟨[], .tup [.cel (.int .i64 (rcA v a0 an pe sp ah)), .cel (.int .i64 (rcB v a0 an pe sp ah))], []⟩
def rreach_go : List TV → List RowA → List (List CV) → Option CRes := fun args rows caps =>
  match args, rows, caps with
  | [.agg [.bool v, .int .i64 a0, .int .i64 an, .int .i64 pe, .int .i64 sp, .int .i64 ah]], [], [] => some (rreach_res v a0 an pe sp ah)
  | _, _, _ => none
def rreach_e : Ent := ⟨25, [], rreach_go⟩
set_option maxRecDepth 100000 in
theorem rreach_tree (v : Bool) (a0 : Int) (an : Int) (pe : Int) (sp : Int) (ah : Int) : ((cnd (!(decide ((cErr v a0 an pe sp ah) = (0 : Int))))
  (((0 : Int) = (rcA v a0 an pe sp ah)) ∧ ((0 : Int) = (rcB v a0 an pe sp ah)))
  ((an = (rcA v a0 an pe sp ah)) ∧ ((Int.tmod (Go.IntKind.wrap Go.IntKind.i64 (an + ah)) (46080 : Int)) = (rcB v a0 an pe sp ah))))) = EXD Try.prog (conOf [rfault_e]) Try.f25 [.agg [.bool v, .int .i64 a0, .int .i64 an, .int .i64 pe, .int .i64 sp, .int .i64 ah]] [] [] (rreach_res v a0 an pe sp ah) := by kernel_rfl
theorem rreach_holds (v : Bool) (a0 : Int) (an : Int) (pe : Int) (sp : Int) (ah : Int)  : (cnd (!(decide ((cErr v a0 an pe sp ah) = (0 : Int))))
  (((0 : Int) = (rcA v a0 an pe sp ah)) ∧ ((0 : Int) = (rcB v a0 an pe sp ah)))
  ((an = (rcA v a0 an pe sp ah)) ∧ ((Int.tmod (Go.IntKind.wrap Go.IntKind.i64 (an + ah)) (46080 : Int)) = (rcB v a0 an pe sp ah)))) := by
  by_cases hz : cErr v a0 an pe sp ah = 0
  · obtain ⟨rfl, hk⟩ := cErr_zero.1 hz
    rw [cKnown_iff] at hk
    rw [w64 (n := an + ah) (by omega) (by omega), show Int.tmod (an + ah) 46080 = (an + ah) % 46080 from tmod_pos (by omega)]
    simp [rcA, rcB, hz, cnd]
  · simp [rcA, rcB, hz, cnd]
set_option maxHeartbeats 2000000 in
theorem rreach_ok : SoundEnt Try.prog rreach_e := by
  refine ent_of_ex (Γ := (conOf [rfault_e])) (conOf_sound (scons rfault_ok snil)) (by kernel_rfl) Try.func25 (by kernel_rfl) (by kernel_rfl) (fun args rows caps res h ho => ?_)
  change rreach_go args rows caps = some res at h
  unfold rreach_go at h
  split at h
  · simp only [Option.some.injEq] at h
    subst h
    rename_i q0_ q1_ q2_ q3_ q4_ q5_
    skip
    exact EX.of (rreach_tree q0_ q1_ q2_ q3_ q4_ q5_) (rreach_holds q0_ q1_ q2_ q3_ q4_ q5_)
  · cases h
def rticks_res (v : Bool) (a0 : Int) (an : Int) (pe : Int) (sp : Int) (ah : Int) (u : Int) : CRes := ⟨[], .tup [.cel (.int .i64 (tkT v a0 an pe sp ah u)), .cel (.int .i64 (tkErr v a0 an pe sp ah u))], []⟩
def rticks_go : List TV → List RowA → List (List CV) → Option CRes := fun args rows caps =>
  match args, rows, caps with
  | [.agg [.bool v, .int .i64 a0, .int .i64 an, .int .i64 pe, .int .i64 sp, .int .i64 ah], .cel (.int .i64 u)], [], [] => some (rticks_res v a0 an pe sp ah u)
  | _, _, _ => none
def rticks_e : Ent := ⟨26, [], rticks_go⟩
set_option maxRecDepth 100000 in
theorem rticks_tree (v : Bool) (a0 : Int) (an : Int) (pe : Int) (sp : Int) (ah : Int) (u : Int) : ((cnd (!(decide ((cErr v a0 an pe sp ah) = (0 : Int))))
  (((0 : Int) = (tkT v a0 an pe sp ah u)) ∧ ((cErr v a0 an pe sp ah) = (tkErr v a0 an pe sp ah u)))
  (cnd ((decide (u < (0 : Int))) || (decide ((46080 : Int) < u)))
    (((0 : Int) = (tkT v a0 an pe sp ah u)) ∧ ((2 : Int) = (tkErr v a0 an pe sp ah u)))
    (cnd (decide ((0 : Int) ≤ (Go.IntKind.wrap Go.IntKind.i64 (u * pe))))
      (cnd (inBig (Go.IntKind.wrap Go.IntKind.i64 (u * pe)))
        (cnd (decide ((1 : Int) ≤ sp))
          (cnd (decide (sp ≤ (1000000 : Int)))
            (((upq (Go.IntKind.wrap Go.IntKind.i64 (u * pe)) sp) = (tkT v a0 an pe sp ah u)) ∧ ((0 : Int) = (tkErr v a0 an pe sp ah u)))
            False)
          False)
        False)
      False)))) = EXD Try.prog (conOf [rfault_e, rup_e]) Try.f26 [.agg [.bool v, .int .i64 a0, .int .i64 an, .int .i64 pe, .int .i64 sp, .int .i64 ah], .cel (.int .i64 u)] [] [] (rticks_res v a0 an pe sp ah u) := by kernel_rfl
theorem rticks_holds (v : Bool) (a0 : Int) (an : Int) (pe : Int) (sp : Int) (ah : Int) (u : Int)  : (cnd (!(decide ((cErr v a0 an pe sp ah) = (0 : Int))))
  (((0 : Int) = (tkT v a0 an pe sp ah u)) ∧ ((cErr v a0 an pe sp ah) = (tkErr v a0 an pe sp ah u)))
  (cnd ((decide (u < (0 : Int))) || (decide ((46080 : Int) < u)))
    (((0 : Int) = (tkT v a0 an pe sp ah u)) ∧ ((2 : Int) = (tkErr v a0 an pe sp ah u)))
    (cnd (decide ((0 : Int) ≤ (Go.IntKind.wrap Go.IntKind.i64 (u * pe))))
      (cnd (inBig (Go.IntKind.wrap Go.IntKind.i64 (u * pe)))
        (cnd (decide ((1 : Int) ≤ sp))
          (cnd (decide (sp ≤ (1000000 : Int)))
            (((upq (Go.IntKind.wrap Go.IntKind.i64 (u * pe)) sp) = (tkT v a0 an pe sp ah u)) ∧ ((0 : Int) = (tkErr v a0 an pe sp ah u)))
            False)
          False)
        False)
      False))) := by
  by_cases hz : cErr v a0 an pe sp ah = 0
  · obtain ⟨rfl, hk⟩ := cErr_zero.1 hz
    rw [cKnown_iff] at hk
    obtain ⟨⟨k1, k2⟩, k3, k4, k5, k6, k7, k8, k9⟩ := hk
    by_cases hu : 0 ≤ u ∧ u ≤ 46080
    · have hb := mul_bd (a := u) (b := pe) (A := 46080) (B := 1073741824) (by omega) (by omega) (by omega) (by omega)
      rw [w64 (n := u * pe) (by omega) (by omega)]
      have i1 : inBig (u * pe) = true := inBig_iff.2 (by omega)
      have i2 : decide (sp ≤ 1000000) = true := by simp; omega
      have i3 : decide (0 ≤ u * pe) = true := by simpa using hb.1
      have i4 : decide (1 ≤ sp) = true := by simp; omega
      have j1 : (decide (u < 0) || decide (46080 < u)) = false := by simp; omega
      simp only [hz, decide_true, Bool.not_true, cnd, j1, i1, i2, i3, i4]
      simp [tkT, tkErr, hz, hu.1, hu.2]
    · have j1 : (decide (u < 0) || decide (46080 < u)) = true := by simp; omega
      simp [tkT, tkErr, hz, hu, j1, cnd]
  · simp [tkT, tkErr, hz, cnd]
set_option maxHeartbeats 2000000 in
theorem rticks_ok : SoundEnt Try.prog rticks_e := by
  refine ent_of_ex (Γ := (conOf [rfault_e, rup_e])) (conOf_sound (scons rfault_ok (scons rup_ok snil))) (by kernel_rfl) Try.func26 (by kernel_rfl) (by kernel_rfl) (fun args rows caps res h ho => ?_)
  change rticks_go args rows caps = some res at h
  unfold rticks_go at h
  split at h
  · simp only [Option.some.injEq] at h
    subst h
    rename_i q0_ q1_ q2_ q3_ q4_ q5_ q6_
    skip
    exact EX.of (rticks_tree q0_ q1_ q2_ q3_ q4_ q5_ q6_) (rticks_holds q0_ q1_ q2_ q3_ q4_ q5_ q6_)
  · cases h
def awake_res : CRes := ⟨[], .one (.cel (.bool (true))), []⟩
def awake_go : List TV → List RowA → List (List CV) → Option CRes := fun args rows caps =>
  match args, rows, caps with
  | [], [], [] => some (awake_res )
  | _, _, _ => none
def awake_e : Ent := ⟨10, [], awake_go⟩
set_option maxRecDepth 100000 in
theorem awake_tree  : ((Bool.true = Bool.true)) = EXD Try.prog (conOf [atooth_e, aat_e, atime_e, arpm_e]) Try.f10 [] [] [] (awake_res ) := by kernel_rfl
theorem awake_holds   : (Bool.true = Bool.true) := by
  decide +kernel
set_option maxHeartbeats 2000000 in
theorem awake_ok : SoundEnt Try.prog awake_e := by
  refine ent_of_ex (Γ := (conOf [atooth_e, aat_e, atime_e, arpm_e])) (conOf_sound (scons atooth_ok (scons aat_ok (scons atime_ok (scons arpm_ok snil))))) (by kernel_rfl) Try.func10 (by kernel_rfl) (by kernel_rfl) (fun args rows caps res h ho => ?_)
  change awake_go args rows caps = some res at h
  unfold awake_go at h
  split at h
  · simp only [Option.some.injEq] at h
    subst h
    skip
    skip
    exact EX.of (awake_tree ) (awake_holds )
  · cases h
def times_res (v : Bool) (a0 : Int) (an : Int) (pe : Int) (sp : Int) (ah : Int) (t : Int) (a : Int) : CRes := ⟨[wfI .i64 a0, wfI .i64 an, wfI .i64 pe, wfI .i64 sp, wfI .i64 ah, wfI .i64 t, wfI .i64 a], .one (.cel (.bool (true))), []⟩
def times_go : List TV → List RowA → List (List CV) → Option CRes := fun args rows caps =>
  match args, rows, caps with
  | [.agg [.bool v, .int .i64 a0, .int .i64 an, .int .i64 pe, .int .i64 sp, .int .i64 ah], .cel (.int .i64 t), .cel (.int .i64 a)], [], [] => some (times_res v a0 an pe sp ah t a)
  | _, _, _ => none
def times_e : Ent := ⟨3, [], times_go⟩
set_option maxRecDepth 100000 in
theorem times_tree (v : Bool) (a0 : Int) (an : Int) (pe : Int) (sp : Int) (ah : Int) (t : Int) (a : Int) : ((((((decide ((atA v a0 an pe sp ah t) = (atA v a0 an pe sp ah t))) && (decide ((atErr v a0 an pe sp ah t) = (atErr v a0 an pe sp ah t)))) && (decide ((tmT v a0 an pe sp ah a) = (tmT v a0 an pe sp ah a)))) && (decide ((tmErr v a0 an pe sp ah a) = (tmErr v a0 an pe sp ah a)))) = Bool.true)) = EXD Try.prog (conOf [awake_e, aat_e, atime_e, rat_e, rtm_e]) Try.f3 [.agg [.bool v, .int .i64 a0, .int .i64 an, .int .i64 pe, .int .i64 sp, .int .i64 ah], .cel (.int .i64 t), .cel (.int .i64 a)] [] [] (times_res v a0 an pe sp ah t a) := by kernel_rfl
theorem times_holds (v : Bool) (a0 : Int) (an : Int) (pe : Int) (sp : Int) (ah : Int) (t : Int) (a : Int) (p0 : wfI .i64 a0 = true) (p1 : wfI .i64 an = true) (p2 : wfI .i64 pe = true) (p3 : wfI .i64 sp = true) (p4 : wfI .i64 ah = true) (p5 : wfI .i64 t = true) (p6 : wfI .i64 a = true) : (((((decide ((atA v a0 an pe sp ah t) = (atA v a0 an pe sp ah t))) && (decide ((atErr v a0 an pe sp ah t) = (atErr v a0 an pe sp ah t)))) && (decide ((tmT v a0 an pe sp ah a) = (tmT v a0 an pe sp ah a)))) && (decide ((tmErr v a0 an pe sp ah a) = (tmErr v a0 an pe sp ah a)))) = Bool.true) := by
  simp
set_option maxHeartbeats 2000000 in
theorem times_ok : SoundEnt Try.prog times_e := by
  refine ent_of_ex (Γ := (conOf [awake_e, aat_e, atime_e, rat_e, rtm_e])) (conOf_sound (scons awake_ok (scons aat_ok (scons atime_ok (scons rat_ok (scons rtm_ok snil)))))) (by kernel_rfl) Try.func3 (by kernel_rfl) (by kernel_rfl) (fun args rows caps res h ho => ?_)
  change times_go args rows caps = some res at h
  unfold times_go at h
  split at h
  · simp only [Option.some.injEq] at h
    subst h
    rename_i q0_ q1_ q2_ q3_ q4_ q5_ q6_ q7_
    obtain ⟨p0, p1, p2, p3, p4, p5, p6, _⟩ := ho
    exact EX.of (times_tree q0_ q1_ q2_ q3_ q4_ q5_ q6_ q7_) (times_holds q0_ q1_ q2_ q3_ q4_ q5_ q6_ q7_ p0 p1 p2 p3 p4 p5 p6)
  · cases h
def speeds_res (v : Bool) (a0 : Int) (an : Int) (pe : Int) (sp : Int) (ah : Int) (u : Int) : CRes := ⟨[wfI .i64 a0, wfI .i64 an, wfI .i64 pe, wfI .i64 sp, wfI .i64 ah, wfI .i64 u], .one (.cel (.bool (true))), []⟩
def speeds_go : List TV → List RowA → List (List CV) → Option CRes := fun args rows caps =>
  match args, rows, caps with
  | [.agg [.bool v, .int .i64 a0, .int .i64 an, .int .i64 pe, .int .i64 sp, .int .i64 ah], .cel (.int .i64 u)], [], [] => some (speeds_res v a0 an pe sp ah u)
  | _, _, _ => none
def speeds_e : Ent := ⟨8, [], speeds_go⟩
set_option maxRecDepth 100000 in
theorem speeds_tree (v : Bool) (a0 : Int) (an : Int) (pe : Int) (sp : Int) (ah : Int) (u : Int) : (((((((decide ((rpmOf v a0 an pe sp ah) = (rpmOf v a0 an pe sp ah))) && (decide ((rcA v a0 an pe sp ah) = (rcA v a0 an pe sp ah)))) && (decide ((rcB v a0 an pe sp ah) = (rcB v a0 an pe sp ah)))) && (decide ((tkT v a0 an pe sp ah u) = (tkT v a0 an pe sp ah u)))) && (decide ((tkErr v a0 an pe sp ah u) = (tkErr v a0 an pe sp ah u)))) = Bool.true)) = EXD Try.prog (conOf [awake_e, arpm_e, areach_e, aticks_e, rrpm_e, rreach_e, rticks_e]) Try.f8 [.agg [.bool v, .int .i64 a0, .int .i64 an, .int .i64 pe, .int .i64 sp, .int .i64 ah], .cel (.int .i64 u)] [] [] (speeds_res v a0 an pe sp ah u) := by kernel_rfl
theorem speeds_holds (v : Bool) (a0 : Int) (an : Int) (pe : Int) (sp : Int) (ah : Int) (u : Int) (p0 : wfI .i64 a0 = true) (p1 : wfI .i64 an = true) (p2 : wfI .i64 pe = true) (p3 : wfI .i64 sp = true) (p4 : wfI .i64 ah = true) (p5 : wfI .i64 u = true) : ((((((decide ((rpmOf v a0 an pe sp ah) = (rpmOf v a0 an pe sp ah))) && (decide ((rcA v a0 an pe sp ah) = (rcA v a0 an pe sp ah)))) && (decide ((rcB v a0 an pe sp ah) = (rcB v a0 an pe sp ah)))) && (decide ((tkT v a0 an pe sp ah u) = (tkT v a0 an pe sp ah u)))) && (decide ((tkErr v a0 an pe sp ah u) = (tkErr v a0 an pe sp ah u)))) = Bool.true) := by
  simp
set_option maxHeartbeats 2000000 in
theorem speeds_ok : SoundEnt Try.prog speeds_e := by
  refine ent_of_ex (Γ := (conOf [awake_e, arpm_e, areach_e, aticks_e, rrpm_e, rreach_e, rticks_e])) (conOf_sound (scons awake_ok (scons arpm_ok (scons areach_ok (scons aticks_ok (scons rrpm_ok (scons rreach_ok (scons rticks_ok snil)))))))) (by kernel_rfl) Try.func8 (by kernel_rfl) (by kernel_rfl) (fun args rows caps res h ho => ?_)
  change speeds_go args rows caps = some res at h
  unfold speeds_go at h
  split at h
  · simp only [Option.some.injEq] at h
    subst h
    rename_i q0_ q1_ q2_ q3_ q4_ q5_ q6_
    obtain ⟨p0, p1, p2, p3, p4, p5, _⟩ := ho
    exact EX.of (speeds_tree q0_ q1_ q2_ q3_ q4_ q5_ q6_) (speeds_holds q0_ q1_ q2_ q3_ q4_ q5_ q6_ p0 p1 p2 p3 p4 p5)
  · cases h
def wv16_res (T : Int) (M : Int) : CRes := ⟨[], .one (.cel (.bool (wValid T M))), []⟩
def wv16_go : List TV → List RowA → List (List CV) → Option CRes := fun args rows caps =>
  match args, rows, caps with
  | [.agg [.int .i64 T, .int .i64 M]], [], [] => some (wv16_res T M)
  | _, _, _ => none
def wv16_e : Ent := ⟨39, [], wv16_go⟩
set_option maxRecDepth 100000 in
theorem wv16_tree (T : Int) (M : Int) : ((cnd ((!((((((decide (M = (1 : Int))) || (decide (M = (2 : Int)))) && (decide ((12 : Int) ≤ T))) && (decide (T ≤ (120 : Int)))) && (decide ((Go.IntKind.wrap Go.IntKind.i64 ((8 : Int) * M)) ≤ T))) == Bool.true)) || (decide (T ≠ (0 : Int))))
  (((((((decide (M = (1 : Int))) || (decide (M = (2 : Int)))) && (decide ((12 : Int) ≤ T))) && (decide (T ≤ (120 : Int)))) && (decide ((Go.IntKind.wrap Go.IntKind.i64 ((8 : Int) * M)) ≤ T))) && (decide ((Int.tmod (23040 : Int) T) = (0 : Int)))) = (wValid T M))
  False)) = EXD Try.prog (conOf []) Try.f39 [.agg [.int .i64 T, .int .i64 M]] [] [] (wv16_res T M) := by kernel_rfl
theorem wv16_holds (T : Int) (M : Int)  : (cnd ((!((((((decide (M = (1 : Int))) || (decide (M = (2 : Int)))) && (decide ((12 : Int) ≤ T))) && (decide (T ≤ (120 : Int)))) && (decide ((Go.IntKind.wrap Go.IntKind.i64 ((8 : Int) * M)) ≤ T))) == Bool.true)) || (decide (T ≠ (0 : Int))))
  (((((((decide (M = (1 : Int))) || (decide (M = (2 : Int)))) && (decide ((12 : Int) ≤ T))) && (decide (T ≤ (120 : Int)))) && (decide ((Go.IntKind.wrap Go.IntKind.i64 ((8 : Int) * M)) ≤ T))) && (decide ((Int.tmod (23040 : Int) T) = (0 : Int)))) = (wValid T M))
  False) := by
  by_cases hM : M = 1 ∨ M = 2
  · rw [w64 (n := 8 * M) (by omega) (by omega)]
    by_cases hT : 12 ≤ T
    · have e : Int.tmod 23040 T = 23040 % T := tmod_pos (by decide)
      have h0 : decide (T ≠ 0) = true := by simp; omega
      rw [e, h0, Bool.or_true]
      simp only [cnd, wValid]
    · have h0 : decide (12 ≤ T) = false := by simpa using hT
      rw [h0]
      simp [cnd, wValid, h0]
  · have h0 : (decide (M = 1) || decide (M = 2)) = false := by simp; omega
    rw [h0]
    simp [cnd, wValid, h0]
set_option maxHeartbeats 2000000 in
theorem wv16_ok : SoundEnt Try.prog wv16_e := by
  refine ent_of_ex (Γ := (conOf [])) (conOf_sound snil) (by kernel_rfl) Try.func39 (by kernel_rfl) (by kernel_rfl) (fun args rows caps res h ho => ?_)
  change wv16_go args rows caps = some res at h
  unfold wv16_go at h
  split at h
  · simp only [Option.some.injEq] at h
    subst h
    rename_i q0_ q1_
    skip
    exact EX.of (wv16_tree q0_ q1_) (wv16_holds q0_ q1_)
  · cases h
def wt16_res (T : Int) (M : Int) : CRes := ⟨[wValid T M], .one (.cel (.int .i64 (tth T M))), []⟩
def wt16_go : List TV → List RowA → List (List CV) → Option CRes := fun args rows caps =>
  match args, rows, caps with
  | [.agg [.int .i64 T, .int .i64 M]], [], [] => some (wt16_res T M)
  | _, _, _ => none
def wt16_e : Ent := ⟨40, [], wt16_go⟩
set_option maxRecDepth 100000 in
theorem wt16_tree (T : Int) (M : Int) : (((Go.IntKind.wrap Go.IntKind.i64 (T - M)) = (tth T M))) = EXD Try.prog (conOf []) Try.f40 [.agg [.int .i64 T, .int .i64 M]] [] [] (wt16_res T M) := by kernel_rfl
theorem wt16_holds (T : Int) (M : Int) (p0 : wValid T M = true) : ((Go.IntKind.wrap Go.IntKind.i64 (T - M)) = (tth T M)) := by
  have hh := wValid_iff.1 p0
  unfold tth
  rw [if_pos p0, w64 (by omega) (by omega)]
set_option maxHeartbeats 2000000 in
theorem wt16_ok : SoundEnt Try.prog wt16_e := by
  refine ent_of_ex (Γ := (conOf [])) (conOf_sound snil) (by kernel_rfl) Try.func40 (by kernel_rfl) (by kernel_rfl) (fun args rows caps res h ho => ?_)
  change wt16_go args rows caps = some res at h
  unfold wt16_go at h
  split at h
  · simp only [Option.some.injEq] at h
    subst h
    rename_i q0_ q1_
    obtain ⟨p0, _⟩ := ho
    exact EX.of (wt16_tree q0_ q1_) (wt16_holds q0_ q1_ p0)
  · cases h
def ws16_res (T : Int) (M : Int) : CRes := ⟨[wValid T M], .one (.cel (.int .i64 (spc T M))), []⟩
def ws16_go : List TV → List RowA → List (List CV) → Option CRes := fun args rows caps =>
  match args, rows, caps with
  | [.agg [.int .i64 T, .int .i64 M]], [], [] => some (ws16_res T M)
  | _, _, _ => none
def ws16_e : Ent := ⟨41, [], ws16_go⟩
set_option maxRecDepth 100000 in
theorem ws16_tree (T : Int) (M : Int) : ((cnd (decide (T ≠ (0 : Int)))
  ((Go.IntKind.wrap Go.IntKind.i64 (Int.tdiv (23040 : Int) T)) = (spc T M))
  False)) = EXD Try.prog (conOf []) Try.f41 [.agg [.int .i64 T, .int .i64 M]] [] [] (ws16_res T M) := by kernel_rfl
theorem ws16_holds (T : Int) (M : Int) (p0 : wValid T M = true) : (cnd (decide (T ≠ (0 : Int)))
  ((Go.IntKind.wrap Go.IntKind.i64 (Int.tdiv (23040 : Int) T)) = (spc T M))
  False) := by
  have hh := wValid_iff.1 p0
  obtain ⟨b0, b1, b2, b3⟩ := spc_bd p0
  have h0 : decide (T ≠ 0) = true := by simp; omega
  rw [show Int.tdiv 23040 T = 23040 / T from tdiv_pos (by decide), ← b3, w64 (by omega) (by omega)]
  simp [h0, cnd]
set_option maxHeartbeats 2000000 in
theorem ws16_ok : SoundEnt Try.prog ws16_e := by
  refine ent_of_ex (Γ := (conOf [])) (conOf_sound snil) (by kernel_rfl) Try.func41 (by kernel_rfl) (by kernel_rfl) (fun args rows caps res h ho => ?_)
  change ws16_go args rows caps = some res at h
  unfold ws16_go at h
  split at h
  · simp only [Option.some.injEq] at h
    subst h
    rename_i q0_ q1_
    obtain ⟨p0, _⟩ := ho
    exact EX.of (ws16_tree q0_ q1_) (ws16_holds q0_ q1_ p0)
  · cases h
def rtooth_res (T : Int) (M : Int) (t : Int) (th : Int) (hf : Int) (pe : Int) : CRes := ⟨[wfI .i64 M], .tup [.agg [.bool (toOk T M t th hf pe), .int .i64 (toAt T M t th hf pe), .int .i64 (toAn T M t th hf pe), .int .i64 (toPe T M t th hf pe), .int .i64 (toSp T M t th hf pe), .int .i64 (toAh T M t th hf pe)], .cel (.int .i64 (toErr T M t th hf pe))], []⟩
def rtooth_go : List TV → List RowA → List (List CV) → Option CRes := fun args rows caps =>
  match args, rows, caps with
  | [.agg [.int .i64 T, .int .i64 M], .cel (.int .i64 t), .cel (.int .i64 th), .cel (.int .i64 hf), .cel (.int .i64 pe)], [], [] => some (rtooth_res T M t th hf pe)
  | _, _, _ => none
def rtooth_e : Ent := ⟨17, [], rtooth_go⟩
set_option maxRecDepth 100000 in
theorem rtooth_tree (T : Int) (M : Int) (t : Int) (th : Int) (hf : Int) (pe : Int) : ((cnd (!(wValid T M))
  (((Bool.false = (toOk T M t th hf pe)) ∧ (((0 : Int) = (toAt T M t th hf pe)) ∧ (((0 : Int) = (toAn T M t th hf pe)) ∧ (((0 : Int) = (toPe T M t th hf pe)) ∧ (((0 : Int) = (toSp T M t th hf pe)) ∧ ((0 : Int) = (toAh T M t th hf pe))))))) ∧ ((1 : Int) = (toErr T M t th hf pe)))
  (cnd (wValid T M)
    (cnd (((((((!(isT t)) || (decide (th < (0 : Int)))) || (decide ((tth T M) ≤ th))) || (decide (hf < (0 : Int)))) || (decide ((1 : Int) < hf))) || (decide (pe ≤ M))) || (decide ((1073741824 : Int) < pe)))
      (((Bool.false = (toOk T M t th hf pe)) ∧ (((0 : Int) = (toAt T M t th hf pe)) ∧ (((0 : Int) = (toAn T M t th hf pe)) ∧ (((0 : Int) = (toPe T M t th hf pe)) ∧ (((0 : Int) = (toSp T M t th hf pe)) ∧ ((0 : Int) = (toAh T M t th hf pe))))))) ∧ ((2 : Int) = (toErr T M t th hf pe)))
      (cnd (wValid T M)
        (cnd (decide (th = (0 : Int)))
          (cnd (decide ((Go.IntKind.wrap Go.IntKind.i64 (M + (1 : Int))) ≠ (0 : Int)))
            (cnd (decide (th = (Go.IntKind.wrap Go.IntKind.i64 ((tth T M) - (1 : Int)))))
              (((Bool.true = (toOk T M t th hf pe)) ∧ ((t = (toAt T M t th hf pe)) ∧ (((Go.IntKind.wrap Go.IntKind.i64 ((Go.IntKind.wrap Go.IntKind.i64 (hf * (23040 : Int))) + (Go.IntKind.wrap Go.IntKind.i64 (th * (spc T M))))) = (toAn T M t th hf pe)) ∧ (((Go.IntKind.wrap Go.IntKind.i64 (Int.tdiv pe (Go.IntKind.wrap Go.IntKind.i64 (M + (1 : Int))))) = (toPe T M t th hf pe)) ∧ (((spc T M) = (toSp T M t th hf pe)) ∧ ((Go.IntKind.wrap Go.IntKind.i64 ((Go.IntKind.wrap Go.IntKind.i64 (M + (1 : Int))) * (spc T M))) = (toAh T M t th hf pe))))))) ∧ ((0 : Int) = (toErr T M t th hf pe)))
              (((Bool.true = (toOk T M t th hf pe)) ∧ ((t = (toAt T M t th hf pe)) ∧ (((Go.IntKind.wrap Go.IntKind.i64 ((Go.IntKind.wrap Go.IntKind.i64 (hf * (23040 : Int))) + (Go.IntKind.wrap Go.IntKind.i64 (th * (spc T M))))) = (toAn T M t th hf pe)) ∧ (((Go.IntKind.wrap Go.IntKind.i64 (Int.tdiv pe (Go.IntKind.wrap Go.IntKind.i64 (M + (1 : Int))))) = (toPe T M t th hf pe)) ∧ (((spc T M) = (toSp T M t th hf pe)) ∧ ((spc T M) = (toAh T M t th hf pe))))))) ∧ ((0 : Int) = (toErr T M t th hf pe))))
            False)
          (cnd (decide (th = (Go.IntKind.wrap Go.IntKind.i64 ((tth T M) - (1 : Int)))))
            (((Bool.true = (toOk T M t th hf pe)) ∧ ((t = (toAt T M t th hf pe)) ∧ (((Go.IntKind.wrap Go.IntKind.i64 ((Go.IntKind.wrap Go.IntKind.i64 (hf * (23040 : Int))) + (Go.IntKind.wrap Go.IntKind.i64 (th * (spc T M))))) = (toAn T M t th hf pe)) ∧ ((pe = (toPe T M t th hf pe)) ∧ (((spc T M) = (toSp T M t th hf pe)) ∧ ((Go.IntKind.wrap Go.IntKind.i64 ((Go.IntKind.wrap Go.IntKind.i64 (M + (1 : Int))) * (spc T M))) = (toAh T M t th hf pe))))))) ∧ ((0 : Int) = (toErr T M t th hf pe)))
            (((Bool.true = (toOk T M t th hf pe)) ∧ ((t = (toAt T M t th hf pe)) ∧ (((Go.IntKind.wrap Go.IntKind.i64 ((Go.IntKind.wrap Go.IntKind.i64 (hf * (23040 : Int))) + (Go.IntKind.wrap Go.IntKind.i64 (th * (spc T M))))) = (toAn T M t th hf pe)) ∧ ((pe = (toPe T M t th hf pe)) ∧ (((spc T M) = (toSp T M t th hf pe)) ∧ ((spc T M) = (toAh T M t th hf pe))))))) ∧ ((0 : Int) = (toErr T M t th hf pe)))))
        False))
    False))) = EXD Try.prog (conOf [wv16_e, wt16_e, ws16_e, rtime_e]) Try.f17 [.agg [.int .i64 T, .int .i64 M], .cel (.int .i64 t), .cel (.int .i64 th), .cel (.int .i64 hf), .cel (.int .i64 pe)] [] [] (rtooth_res T M t th hf pe) := by kernel_rfl
theorem rtooth_holds (T : Int) (M : Int) (t : Int) (th : Int) (hf : Int) (pe : Int) (p0 : wfI .i64 M = true) : (cnd (!(wValid T M))
  (((Bool.false = (toOk T M t th hf pe)) ∧ (((0 : Int) = (toAt T M t th hf pe)) ∧ (((0 : Int) = (toAn T M t th hf pe)) ∧ (((0 : Int) = (toPe T M t th hf pe)) ∧ (((0 : Int) = (toSp T M t th hf pe)) ∧ ((0 : Int) = (toAh T M t th hf pe))))))) ∧ ((1 : Int) = (toErr T M t th hf pe)))
  (cnd (wValid T M)
    (cnd (((((((!(isT t)) || (decide (th < (0 : Int)))) || (decide ((tth T M) ≤ th))) || (decide (hf < (0 : Int)))) || (decide ((1 : Int) < hf))) || (decide (pe ≤ M))) || (decide ((1073741824 : Int) < pe)))
      (((Bool.false = (toOk T M t th hf pe)) ∧ (((0 : Int) = (toAt T M t th hf pe)) ∧ (((0 : Int) = (toAn T M t th hf pe)) ∧ (((0 : Int) = (toPe T M t th hf pe)) ∧ (((0 : Int) = (toSp T M t th hf pe)) ∧ ((0 : Int) = (toAh T M t th hf pe))))))) ∧ ((2 : Int) = (toErr T M t th hf pe)))
      (cnd (wValid T M)
        (cnd (decide (th = (0 : Int)))
          (cnd (decide ((Go.IntKind.wrap Go.IntKind.i64 (M + (1 : Int))) ≠ (0 : Int)))
            (cnd (decide (th = (Go.IntKind.wrap Go.IntKind.i64 ((tth T M) - (1 : Int)))))
              (((Bool.true = (toOk T M t th hf pe)) ∧ ((t = (toAt T M t th hf pe)) ∧ (((Go.IntKind.wrap Go.IntKind.i64 ((Go.IntKind.wrap Go.IntKind.i64 (hf * (23040 : Int))) + (Go.IntKind.wrap Go.IntKind.i64 (th * (spc T M))))) = (toAn T M t th hf pe)) ∧ (((Go.IntKind.wrap Go.IntKind.i64 (Int.tdiv pe (Go.IntKind.wrap Go.IntKind.i64 (M + (1 : Int))))) = (toPe T M t th hf pe)) ∧ (((spc T M) = (toSp T M t th hf pe)) ∧ ((Go.IntKind.wrap Go.IntKind.i64 ((Go.IntKind.wrap Go.IntKind.i64 (M + (1 : Int))) * (spc T M))) = (toAh T M t th hf pe))))))) ∧ ((0 : Int) = (toErr T M t th hf pe)))
              (((Bool.true = (toOk T M t th hf pe)) ∧ ((t = (toAt T M t th hf pe)) ∧ (((Go.IntKind.wrap Go.IntKind.i64 ((Go.IntKind.wrap Go.IntKind.i64 (hf * (23040 : Int))) + (Go.IntKind.wrap Go.IntKind.i64 (th * (spc T M))))) = (toAn T M t th hf pe)) ∧ (((Go.IntKind.wrap Go.IntKind.i64 (Int.tdiv pe (Go.IntKind.wrap Go.IntKind.i64 (M + (1 : Int))))) = (toPe T M t th hf pe)) ∧ (((spc T M) = (toSp T M t th hf pe)) ∧ ((spc T M) = (toAh T M t th hf pe))))))) ∧ ((0 : Int) = (toErr T M t th hf pe))))
            False)
          (cnd (decide (th = (Go.IntKind.wrap Go.IntKind.i64 ((tth T M) - (1 : Int)))))
            (((Bool.true = (toOk T M t th hf pe)) ∧ ((t = (toAt T M t th hf pe)) ∧ (((Go.IntKind.wrap Go.IntKind.i64 ((Go.IntKind.wrap Go.IntKind.i64 (hf * (23040 : Int))) + (Go.IntKind.wrap Go.IntKind.i64 (th * (spc T M))))) = (toAn T M t th hf pe)) ∧ ((pe = (toPe T M t th hf pe)) ∧ (((spc T M) = (toSp T M t th hf pe)) ∧ ((Go.IntKind.wrap Go.IntKind.i64 ((Go.IntKind.wrap Go.IntKind.i64 (M + (1 : Int))) * (spc T M))) = (toAh T M t th hf pe))))))) ∧ ((0 : Int) = (toErr T M t th hf pe)))
            (((Bool.true = (toOk T M t th hf pe)) ∧ ((t = (toAt T M t th hf pe)) ∧ (((Go.IntKind.wrap Go.IntKind.i64 ((Go.IntKind.wrap Go.IntKind.i64 (hf * (23040 : Int))) + (Go.IntKind.wrap Go.IntKind.i64 (th * (spc T M))))) = (toAn T M t th hf pe)) ∧ ((pe = (toPe T M t th hf pe)) ∧ (((spc T M) = (toSp T M t th hf pe)) ∧ ((spc T M) = (toAh T M t th hf pe))))))) ∧ ((0 : Int) = (toErr T M t th hf pe)))))
        False))
    False)) := by
  have hM := wfI64.1 p0
  by_cases h : wValid T M = true
  · obtain ⟨b0, b1, b2, b3⟩ := spc_bd h
    have hh := wValid_iff.1 h
    have hm : tth T M = T - M := by unfold tth; rw [if_pos h]
    rw [w64 (n := M + 1) (by omega) (by omega), w64 (n := tth T M - 1) (by omega) (by omega)]
    have j0 : decide (M + 1 ≠ 0) = true := by simp; omega
    have hor := tooth_or2 T M t th hf pe
    simp only [h, Bool.not_true, if_true, cnd, Bool.true_and, j0]
    try simp only [h, if_true] at hor
    rw [hor]
    cases hC : tC T M t th hf pe with
    | true =>
      have e0 : toErr T M t th hf pe = 0 := by unfold toErr; rw [if_pos h]; simp only [← tC_eq, hC, if_true]
      have e1 : toOk T M t th hf pe = true := by simp [toOk, e0]
      obtain ⟨c1, c2, c3, c4, c5, c6, c7⟩ := tC_iff.1 hC
      have hb := mul_bd (a := th) (b := spc T M) (A := 120) (B := 1920) c2 (by omega) (by omega) b1
      have d1 : (decide (0 ≤ th) && decide (th < tth T M)) = true := by simp [c2, c3]
      have hp : Int.tdiv pe (M + 1) = pe / (M + 1) := tdiv_pos (by omega)
      have hp2 : IntKind.i64.wrap (pe / (M + 1)) = pe / (M + 1) := by
        have := quo_pos (x := pe) (y := M + 1) (by omega) (by omega)
        exact w64 (by omega) (by omega)
      have hq : IntKind.i64.wrap ((M + 1) * spc T M) = (M + 1) * spc T M := by
        rcases hh.1 with rfl | rfl
        · rw [w64 (by omega) (by omega)] <;> omega
        · rw [w64 (by omega) (by omega)] <;> omega
      have ha : IntKind.i64.wrap (IntKind.i64.wrap (hf * 23040) + th * spc T M) = hf * 23040 + th * spc T M := by
        rw [w64 (n := hf * 23040) (by omega) (by omega), w64 (by omega) (by omega)]
      have hs : IntKind.i64.wrap (th * spc T M) = th * spc T M := w64 (by omega) (by omega)
      rw [hs]
      simp only [d1, hp, hp2, hq, ha, e0, e1, toAt, toAn, toPe, toSp, toAh, Bool.not_true, if_true]
      by_cases x1 : th = 0
      · by_cases x2 : th = tth T M - 1
        · have y1 : decide (th = 0) = true := by simpa using x1
          have y2 : decide (th = tth T M - 1) = true := by simpa using x2
          simp only [y1, y2, if_pos x1, if_pos x2, and_self]
        · have y1 : decide (th = 0) = true := by simpa using x1
          have y2 : decide (th = tth T M - 1) = false := by simpa using x2
          simp only [y1, y2, if_pos x1, if_neg x2, and_self]
      · by_cases x2 : th = tth T M - 1
        · have y1 : decide (th = 0) = false := by simpa using x1
          have y2 : decide (th = tth T M - 1) = true := by simpa using x2
          simp only [y1, y2, if_neg x1, if_pos x2, and_self]
        · have y1 : decide (th = 0) = false := by simpa using x1
          have y2 : decide (th = tth T M - 1) = false := by simpa using x2
          simp only [y1, y2, if_neg x1, if_neg x2, and_self]
    | false =>
      have e0 : toErr T M t th hf pe = 2 := by unfold toErr; rw [if_pos h]; simp only [← tC_eq, hC, Bool.false_eq_true, if_false]
      have e1 : toOk T M t th hf pe = false := by simp [toOk, e0]
      simp [e0, e1, toAt, toAn, toPe, toSp, toAh]
  · have h : wValid T M = false := by simpa using h
    have e0 : toErr T M t th hf pe = 1 := by simp [toErr, h]
    have e1 : toOk T M t th hf pe = false := by simp [toOk, e0]
    simp [h, cnd, e0, e1, toAt, toAn, toPe, toSp, toAh]
set_option maxHeartbeats 2000000 in
theorem rtooth_ok : SoundEnt Try.prog rtooth_e := by
  refine ent_of_ex (Γ := (conOf [wv16_e, wt16_e, ws16_e, rtime_e])) (conOf_sound (scons wv16_ok (scons wt16_ok (scons ws16_ok (scons rtime_ok snil))))) (by kernel_rfl) Try.func17 (by kernel_rfl) (by kernel_rfl) (fun args rows caps res h ho => ?_)
  change rtooth_go args rows caps = some res at h
  unfold rtooth_go at h
  split at h
  · simp only [Option.some.injEq] at h
    subst h
    rename_i q0_ q1_ q2_ q3_ q4_ q5_
    obtain ⟨p0, _⟩ := ho
    exact EX.of (rtooth_tree q0_ q1_ q2_ q3_ q4_ q5_) (rtooth_holds q0_ q1_ q2_ q3_ q4_ q5_ p0)
  · cases h
def anew_res : CRes := ⟨[], .one (.agg [.bool (false), .int .i64 (0), .int .i64 (0), .int .i64 (0), .int .i64 (0), .int .i64 (0)]), []⟩
def anew_go : List TV → List RowA → List (List CV) → Option CRes := fun args rows caps =>
  match args, rows, caps with
  | [], [], [] => some (anew_res )
  | _, _, _ => none
def anew_e : Ent := ⟨20, [], anew_go⟩
set_option maxRecDepth 100000 in
theorem anew_tree  : (((Bool.false = Bool.false) ∧ (((0 : Int) = (0 : Int)) ∧ (((0 : Int) = (0 : Int)) ∧ (((0 : Int) = (0 : Int)) ∧ (((0 : Int) = (0 : Int)) ∧ ((0 : Int) = (0 : Int)))))))) = EXD Try.prog (conOf []) Try.f20 [] [] [] (anew_res ) := by kernel_rfl
theorem anew_holds   : ((Bool.false = Bool.false) ∧ (((0 : Int) = (0 : Int)) ∧ (((0 : Int) = (0 : Int)) ∧ (((0 : Int) = (0 : Int)) ∧ (((0 : Int) = (0 : Int)) ∧ ((0 : Int) = (0 : Int))))))) := by
  simp
set_option maxHeartbeats 2000000 in
theorem anew_ok : SoundEnt Try.prog anew_e := by
  refine ent_of_ex (Γ := (conOf [])) (conOf_sound snil) (by kernel_rfl) Try.func20 (by kernel_rfl) (by kernel_rfl) (fun args rows caps res h ho => ?_)
  change anew_go args rows caps = some res at h
  unfold anew_go at h
  split at h
  · simp only [Option.some.injEq] at h
    subst h
    skip
    skip
    exact EX.of (anew_tree ) (anew_holds )
  · cases h
def teeth_res (T : Int) (M : Int) (t : Int) (th : Int) (hf : Int) (pe : Int) (v : Bool) (a0 : Int) (an : Int) (q2 : Int) (sp : Int) (ah : Int) : CRes := ⟨[wfI .i64 T, wfI .i64 M, wfI .i64 t, wfI .i64 th, wfI .i64 hf, wfI .i64 pe, wfI .i64 a0, wfI .i64 an, wfI .i64 q2, wfI .i64 sp, wfI .i64 ah], .one (.cel (.bool (true))), []⟩
def teeth_go : List TV → List RowA → List (List CV) → Option CRes := fun args rows caps =>
  match args, rows, caps with
  | [.agg [.int .i64 T, .int .i64 M], .cel (.int .i64 t), .cel (.int .i64 th), .cel (.int .i64 hf), .cel (.int .i64 pe), .agg [.bool v, .int .i64 a0, .int .i64 an, .int .i64 q2, .int .i64 sp, .int .i64 ah]], [], [] => some (teeth_res T M t th hf pe v a0 an q2 sp ah)
  | _, _, _ => none
def teeth_e : Ent := ⟨5, [], teeth_go⟩
set_option maxRecDepth 100000 in
theorem teeth_tree (T : Int) (M : Int) (t : Int) (th : Int) (hf : Int) (pe : Int) (v : Bool) (a0 : Int) (an : Int) (q2 : Int) (sp : Int) (ah : Int) : ((cnd (wfI Go.IntKind.i64 M)
  ((((((((toOk T M t th hf pe) == (toOk T M t th hf pe)) && ((decide ((toAt T M t th hf pe) = (toAt T M t th hf pe))) && ((decide ((toAn T M t th hf pe) = (toAn T M t th hf pe))) && ((decide ((toPe T M t th hf pe) = (toPe T M t th hf pe))) && ((decide ((toSp T M t th hf pe) = (toSp T M t th hf pe))) && ((decide ((toAh T M t th hf pe) = (toAh T M t th hf pe))) && Bool.true)))))) && (decide ((toErr T M t th hf pe) = (toErr T M t th hf pe)))) && ((cValid v a0 an q2 sp ah) == (cValid v a0 an q2 sp ah))) && (cValid (toOk T M t th hf pe) (toAt T M t th hf pe) (toAn T M t th hf pe) (toPe T M t th hf pe) (toSp T M t th hf pe) (toAh T M t th hf pe))) && ((Bool.false == Bool.false) && ((decide ((0 : Int) = (0 : Int))) && ((decide ((0 : Int) = (0 : Int))) && ((decide ((0 : Int) = (0 : Int))) && ((decide ((0 : Int) = (0 : Int))) && ((decide ((0 : Int) = (0 : Int))) && Bool.true))))))) = Bool.true)
  False)) = EXD Try.prog (conOf [awake_e, atooth_e, rtooth_e, avalid_e, rcvalid_e, anew_e]) Try.f5 [.agg [.int .i64 T, .int .i64 M], .cel (.int .i64 t), .cel (.int .i64 th), .cel (.int .i64 hf), .cel (.int .i64 pe), .agg [.bool v, .int .i64 a0, .int .i64 an, .int .i64 q2, .int .i64 sp, .int .i64 ah]] [] [] (teeth_res T M t th hf pe v a0 an q2 sp ah) := by kernel_rfl
theorem teeth_holds (T : Int) (M : Int) (t : Int) (th : Int) (hf : Int) (pe : Int) (v : Bool) (a0 : Int) (an : Int) (q2 : Int) (sp : Int) (ah : Int) (p0 : wfI .i64 T = true) (p1 : wfI .i64 M = true) (p2 : wfI .i64 t = true) (p3 : wfI .i64 th = true) (p4 : wfI .i64 hf = true) (p5 : wfI .i64 pe = true) (p6 : wfI .i64 a0 = true) (p7 : wfI .i64 an = true) (p8 : wfI .i64 q2 = true) (p9 : wfI .i64 sp = true) (p10 : wfI .i64 ah = true) : (cnd (wfI Go.IntKind.i64 M)
  ((((((((toOk T M t th hf pe) == (toOk T M t th hf pe)) && ((decide ((toAt T M t th hf pe) = (toAt T M t th hf pe))) && ((decide ((toAn T M t th hf pe) = (toAn T M t th hf pe))) && ((decide ((toPe T M t th hf pe) = (toPe T M t th hf pe))) && ((decide ((toSp T M t th hf pe) = (toSp T M t th hf pe))) && ((decide ((toAh T M t th hf pe) = (toAh T M t th hf pe))) && Bool.true)))))) && (decide ((toErr T M t th hf pe) = (toErr T M t th hf pe)))) && ((cValid v a0 an q2 sp ah) == (cValid v a0 an q2 sp ah))) && (cValid (toOk T M t th hf pe) (toAt T M t th hf pe) (toAn T M t th hf pe) (toPe T M t th hf pe) (toSp T M t th hf pe) (toAh T M t th hf pe))) && ((Bool.false == Bool.false) && ((decide ((0 : Int) = (0 : Int))) && ((decide ((0 : Int) = (0 : Int))) && ((decide ((0 : Int) = (0 : Int))) && ((decide ((0 : Int) = (0 : Int))) && ((decide ((0 : Int) = (0 : Int))) && Bool.true))))))) = Bool.true)
  False) := by
  have hv := tooth_valid T M t th hf pe
  simp [p1, cnd, hv]
set_option maxHeartbeats 2000000 in
theorem teeth_ok : SoundEnt Try.prog teeth_e := by
  refine ent_of_ex (Γ := (conOf [awake_e, atooth_e, rtooth_e, avalid_e, rcvalid_e, anew_e])) (conOf_sound (scons awake_ok (scons atooth_ok (scons rtooth_ok (scons avalid_ok (scons rcvalid_ok (scons anew_ok snil))))))) (by kernel_rfl) Try.func5 (by kernel_rfl) (by kernel_rfl) (fun args rows caps res h ho => ?_)
  change teeth_go args rows caps = some res at h
  unfold teeth_go at h
  split at h
  · simp only [Option.some.injEq] at h
    subst h
    rename_i q0_ q1_ q2_ q3_ q4_ q5_ q6_ q7_ q8_ q9_ q10_ q11_
    obtain ⟨p0, p1, p2, p3, p4, p5, p6, p7, p8, p9, p10, _⟩ := ho
    exact EX.of (teeth_tree q0_ q1_ q2_ q3_ q4_ q5_ q6_ q7_ q8_ q9_ q10_ q11_) (teeth_holds q0_ q1_ q2_ q3_ q4_ q5_ q6_ q7_ q8_ q9_ q10_ q11_ p0 p1 p2 p3 p4 p5 p6 p7 p8 p9 p10)
  · cases h
end Go.Proofs.Ytfkoopimppkkfaa

