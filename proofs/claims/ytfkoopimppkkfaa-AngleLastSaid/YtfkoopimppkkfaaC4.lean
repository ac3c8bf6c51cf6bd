/- The clock is right at its tooth. -/
import Derived.Test.YtfkoopimppkkfaaC2
import Derived.Test.YtfkoopimppkkfaaAm
namespace Go.Proofs.Ytfkoopimppkkfaa
set_option linter.unusedVariables false
set_option linter.unusedSimpArgs false
open Go.RowKit

def nxT (T M p : Int) : Int := if tth T M ≤ p % 23040 / spc T M + 1 then 0 else p % 23040 / spc T M + 1
def nxA (T M p : Int) : Int := if tth T M ≤ p % 23040 / spc T M + 1 then p - p % 23040 + 23040 else p - p % 23040 + (p % 23040 / spc T M + 1) * spc T M
def wnext_res (T : Int) (M : Int) (p : Int) : CRes := ⟨[wValid T M, isT p], .tup [.cel (.int .i64 (nxA T M p)), .cel (.int .i64 (nxT T M p))], []⟩
def wnext_go : List TV → List RowA → Option CRes := fun args rows =>
  match args, rows with
  | [.agg [.int .i64 T, .int .i64 M], .cel (.int .i64 p)], [] => some (wnext_res T M p)
  | _, _ => none
def wnext_e : Ent := ⟨43, [], wnext_go⟩
set_option maxRecDepth 100000 in
theorem wnext_tree (T : Int) (M : Int) (p : Int) : ((cnd (in64 p)
  (cnd (decide ((spc T M) ≠ (0 : Int)))
    (cnd (decide ((tth T M) ≤ (Go.IntKind.wrap Go.IntKind.i64 ((Go.IntKind.wrap Go.IntKind.i64 (Int.tdiv (Go.IntKind.wrap Go.IntKind.i64 (p - (Go.IntKind.wrap Go.IntKind.i64 (p - (p % (23040 : Int)))))) (spc T M))) + (1 : Int)))))
      (((Go.IntKind.wrap Go.IntKind.i64 ((Go.IntKind.wrap Go.IntKind.i64 (p - (p % (23040 : Int)))) + (23040 : Int))) = (nxA T M p)) ∧ ((0 : Int) = (nxT T M p)))
      (((Go.IntKind.wrap Go.IntKind.i64 ((Go.IntKind.wrap Go.IntKind.i64 (p - (p % (23040 : Int)))) + (Go.IntKind.wrap Go.IntKind.i64 ((Go.IntKind.wrap Go.IntKind.i64 ((Go.IntKind.wrap Go.IntKind.i64 (Int.tdiv (Go.IntKind.wrap Go.IntKind.i64 (p - (Go.IntKind.wrap Go.IntKind.i64 (p - (p % (23040 : Int)))))) (spc T M))) + (1 : Int))) * (spc T M))))) = (nxA T M p)) ∧ ((Go.IntKind.wrap Go.IntKind.i64 ((Go.IntKind.wrap Go.IntKind.i64 (Int.tdiv (Go.IntKind.wrap Go.IntKind.i64 (p - (Go.IntKind.wrap Go.IntKind.i64 (p - (p % (23040 : Int)))))) (spc T M))) + (1 : Int))) = (nxT T M p))))
    False)
  False)) = EXD Try.prog (conOf [mod_e, wspace_e, wteeth_e]) Try.f43 [.agg [.int .i64 T, .int .i64 M], .cel (.int .i64 p)] [] (wnext_res T M p) := by kernel_rfl
theorem wnext_holds (T : Int) (M : Int) (p : Int) (p0 : wValid T M = true) (p1 : isT p = true) : (cnd (in64 p)
  (cnd (decide ((spc T M) ≠ (0 : Int)))
    (cnd (decide ((tth T M) ≤ (Go.IntKind.wrap Go.IntKind.i64 ((Go.IntKind.wrap Go.IntKind.i64 (Int.tdiv (Go.IntKind.wrap Go.IntKind.i64 (p - (Go.IntKind.wrap Go.IntKind.i64 (p - (p % (23040 : Int)))))) (spc T M))) + (1 : Int)))))
      (((Go.IntKind.wrap Go.IntKind.i64 ((Go.IntKind.wrap Go.IntKind.i64 (p - (p % (23040 : Int)))) + (23040 : Int))) = (nxA T M p)) ∧ ((0 : Int) = (nxT T M p)))
      (((Go.IntKind.wrap Go.IntKind.i64 ((Go.IntKind.wrap Go.IntKind.i64 (p - (p % (23040 : Int)))) + (Go.IntKind.wrap Go.IntKind.i64 ((Go.IntKind.wrap Go.IntKind.i64 ((Go.IntKind.wrap Go.IntKind.i64 (Int.tdiv (Go.IntKind.wrap Go.IntKind.i64 (p - (Go.IntKind.wrap Go.IntKind.i64 (p - (p % (23040 : Int)))))) (spc T M))) + (1 : Int))) * (spc T M))))) = (nxA T M p)) ∧ ((Go.IntKind.wrap Go.IntKind.i64 ((Go.IntKind.wrap Go.IntKind.i64 (Int.tdiv (Go.IntKind.wrap Go.IntKind.i64 (p - (Go.IntKind.wrap Go.IntKind.i64 (p - (p % (23040 : Int)))))) (spc T M))) + (1 : Int))) = (nxT T M p))))
    False)
  False) := by
  obtain ⟨b0, b1, b2, b3⟩ := spc_bd p0
  have hh := wValid_iff.1 p0
  have hm : tth T M = T - M := by unfold tth; rw [if_pos p0]
  have hp := isT_iff.1 p1
  have hi : in64 p = true := in64_iff.2 (by omega)
  have hs : decide (spc T M ≠ 0) = true := by simp; omega
  have e1 : p - (p - p % 23040) = p % 23040 := by omega
  rw [w64 (n := p - p % 23040) (by omega) (by omega), e1, w64 (n := p % 23040) (by omega) (by omega), show Int.tdiv (p % 23040) (spc T M) = p % 23040 / spc T M from tdiv_pos (by omega)]
  have hq := quo_pos (x := p % 23040) (y := spc T M) (by omega) (by omega)
  rw [w64 (n := p % 23040 / spc T M) (by omega) (by omega), w64 (n := p % 23040 / spc T M + 1) (by omega) (by omega)]
  simp only [hi, hs, cnd]
  by_cases hc : tth T M ≤ p % 23040 / spc T M + 1
  · have j : decide (tth T M ≤ p % 23040 / spc T M + 1) = true := by simpa using hc
    rw [j, w64 (n := p - p % 23040 + 23040) (by omega) (by omega)]
    unfold nxA nxT
    rw [if_pos hc, if_pos hc]
    exact ⟨rfl, rfl⟩
  · have j : decide (tth T M ≤ p % 23040 / spc T M + 1) = false := by simpa using hc
    have hb := mul_bd (a := p % 23040 / spc T M + 1) (b := spc T M) (A := 120) (B := 1920) (by omega) (by omega) (by omega) b1
    rw [j, w64 (n := (p % 23040 / spc T M + 1) * spc T M) (by omega) (by omega), w64 (n := p - p % 23040 + (p % 23040 / spc T M + 1) * spc T M) (by omega) (by omega)]
    unfold nxA nxT
    rw [if_neg hc, if_neg hc]
    exact ⟨rfl, rfl⟩
theorem wnext_ok : SoundEnt Try.prog wnext_e := by
  refine ent_of_ex (Γ := (conOf [mod_e, wspace_e, wteeth_e])) (conOf_sound (scons mod_ok (scons wspace_ok (scons wteeth_ok snil)))) (by kernel_rfl) Try.func43 (by kernel_rfl) (by kernel_rfl) (fun args rows res h ho => ?_)
  change wnext_go args rows = some res at h
  unfold wnext_go at h
  split at h
  · simp only [Option.some.injEq] at h
    subst h
    obtain ⟨p0, p1, _⟩ := ho
    exact EX.of (wnext_tree _ _ _) (wnext_holds _ _ _ p0 p1)
  · cases h
def wposition_res (p : Int) : CRes := ⟨[], .one (.cel (.bool (isT p))), []⟩
def wposition_go : List TV → List RowA → Option CRes := fun args rows =>
  match args, rows with
  | [.cel (.int .i64 p)], [] => some (wposition_res p)
  | _, _ => none
def wposition_e : Ent := ⟨42, [], wposition_go⟩
set_option maxRecDepth 100000 in
theorem wposition_tree (p : Int) : ((((decide ((0 : Int) ≤ p)) && (decide (p ≤ (1099511627776 : Int)))) = (isT p))) = EXD Try.prog (conOf []) Try.f42 [.cel (.int .i64 p)] [] (wposition_res p) := by kernel_rfl
theorem wposition_holds (p : Int)  : (((decide ((0 : Int) ≤ p)) && (decide (p ≤ (1099511627776 : Int)))) = (isT p)) := by
  simp [condF, isT]
theorem wposition_ok : SoundEnt Try.prog wposition_e := by
  refine ent_of_ex (Γ := (conOf [])) (conOf_sound snil) (by kernel_rfl) Try.func42 (by kernel_rfl) (by kernel_rfl) (fun args rows res h ho => ?_)
  change wposition_go args rows = some res at h
  unfold wposition_go at h
  split at h
  · simp only [Option.some.injEq] at h
    subst h
    skip
    exact EX.of (wposition_tree _) (wposition_holds _)
  · cases h
def wNext_res (T : Int) (M : Int) (p : Int) : CRes := ⟨[wValid T M, isT p], .tup [.cel (.int .i64 (nxA T M p)), .cel (.int .i64 (nxT T M p)), .cel (.int .i64 (0))], []⟩
def wNext_go : List TV → List RowA → Option CRes := fun args rows =>
  match args, rows with
  | [.agg [.int .i64 T, .int .i64 M], .cel (.int .i64 p)], [] => some (wNext_res T M p)
  | _, _ => none
def wNext_e : Ent := ⟨29, [], wNext_go⟩
set_option maxRecDepth 100000 in
theorem wNext_tree (T : Int) (M : Int) (p : Int) : ((cnd (!(wValid T M))
  (((0 : Int) = (nxA T M p)) ∧ (((0 : Int) = (nxT T M p)) ∧ ((1 : Int) = (0 : Int))))
  (cnd (!(isT p))
    (((0 : Int) = (nxA T M p)) ∧ (((0 : Int) = (nxT T M p)) ∧ ((2 : Int) = (0 : Int))))
    (cnd (wValid T M)
      (cnd (isT p)
        (((nxA T M p) = (nxA T M p)) ∧ (((nxT T M p) = (nxT T M p)) ∧ ((0 : Int) = (0 : Int))))
        False)
      False)))) = EXD Try.prog (conOf [wvalid_e, wposition_e, wnext_e]) Try.f29 [.agg [.int .i64 T, .int .i64 M], .cel (.int .i64 p)] [] (wNext_res T M p) := by kernel_rfl
theorem wNext_holds (T : Int) (M : Int) (p : Int) (p0 : wValid T M = true) (p1 : isT p = true) : (cnd (!(wValid T M))
  (((0 : Int) = (nxA T M p)) ∧ (((0 : Int) = (nxT T M p)) ∧ ((1 : Int) = (0 : Int))))
  (cnd (!(isT p))
    (((0 : Int) = (nxA T M p)) ∧ (((0 : Int) = (nxT T M p)) ∧ ((2 : Int) = (0 : Int))))
    (cnd (wValid T M)
      (cnd (isT p)
        (((nxA T M p) = (nxA T M p)) ∧ (((nxT T M p) = (nxT T M p)) ∧ ((0 : Int) = (0 : Int))))
        False)
      False))) := by
  simp [p0, p1, cnd]
theorem wNext_ok : SoundEnt Try.prog wNext_e := by
  refine ent_of_ex (Γ := (conOf [wvalid_e, wposition_e, wnext_e])) (conOf_sound (scons wvalid_ok (scons wposition_ok (scons wnext_ok snil)))) (by kernel_rfl) Try.func29 (by kernel_rfl) (by kernel_rfl) (fun args rows res h ho => ?_)
  change wNext_go args rows = some res at h
  unfold wNext_go at h
  split at h
  · simp only [Option.some.injEq] at h
    subst h
    obtain ⟨p0, p1, _⟩ := ho
    exact EX.of (wNext_tree _ _ _) (wNext_holds _ _ _ p0 p1)
  · cases h
def last_res (T : Int) (M : Int) (t : Int) (th : Int) (hf : Int) (pe : Int) : CRes := ⟨[wfI .i64 T, wfI .i64 M, wfI .i64 t, wfI .i64 th, wfI .i64 hf, wfI .i64 pe], .one (.cel (.bool (true))), []⟩
def last_go : List TV → List RowA → Option CRes := fun args rows =>
  match args, rows with
  | [.agg [.int .i64 T, .int .i64 M], .cel (.int .i64 t), .cel (.int .i64 th), .cel (.int .i64 hf), .cel (.int .i64 pe)], [] => some (last_res T M t th hf pe)
  | _, _ => none
def last_e : Ent := ⟨9, [], last_go⟩
set_option maxRecDepth 100000 in
theorem last_tree (T : Int) (M : Int) (t : Int) (th : Int) (hf : Int) (pe : Int) : ((cnd (!(decide ((toErr T M t th hf pe) = (0 : Int))))
  ((!(toOk T M t th hf pe)) = Bool.true)
  (cnd (wValid T M)
    (cnd (isT (Go.IntKind.wrap Go.IntKind.i64 ((Go.IntKind.wrap Go.IntKind.i64 (hf * (23040 : Int))) + (if ((((wValid T M) && (decide ((0 : Int) ≤ th))) && (decide (th < (tth T M)))) = Bool.true) then (th * (spc T M)) else (0 : Int)))))
      (cnd ((!(((((!(decide ((if ((wValid T M) = Bool.true) then (if (((decide ((0 : Int) ≤ th)) && (decide (th < (tth T M)))) = Bool.true) then (0 : Int) else (2 : Int)) else (1 : Int)) = (0 : Int)))) || (!(decide ((0 : Int) = (0 : Int))))) || (!(decide ((atErr (toOk T M t th hf pe) (toAt T M t th hf pe) (toAn T M t th hf pe) (toPe T M t th hf pe) (toSp T M t th hf pe) (toAh T M t th hf pe) t) = (0 : Int))))) || (!(decide ((atA (toOk T M t th hf pe) (toAt T M t th hf pe) (toAn T M t th hf pe) (toPe T M t th hf pe) (toSp T M t th hf pe) (toAh T M t th hf pe) t) = (Go.IntKind.wrap Go.IntKind.i64 ((Go.IntKind.wrap Go.IntKind.i64 (hf * (23040 : Int))) + (if ((((wValid T M) && (decide ((0 : Int) ≤ th))) && (decide (th < (tth T M)))) = Bool.true) then (th * (spc T M)) else (0 : Int)))))))) == Bool.false)) || (decide ((46080 : Int) ≠ (0 : Int))))
        (cnd (((((!(decide ((if ((wValid T M) = Bool.true) then (if (((decide ((0 : Int) ≤ th)) && (decide (th < (tth T M)))) = Bool.true) then (0 : Int) else (2 : Int)) else (1 : Int)) = (0 : Int)))) || (!(decide ((0 : Int) = (0 : Int))))) || (!(decide ((atErr (toOk T M t th hf pe) (toAt T M t th hf pe) (toAn T M t th hf pe) (toPe T M t th hf pe) (toSp T M t th hf pe) (toAh T M t th hf pe) t) = (0 : Int))))) || (!(decide ((atA (toOk T M t th hf pe) (toAt T M t th hf pe) (toAn T M t th hf pe) (toPe T M t th hf pe) (toSp T M t th hf pe) (toAh T M t th hf pe) t) = (Go.IntKind.wrap Go.IntKind.i64 ((Go.IntKind.wrap Go.IntKind.i64 (hf * (23040 : Int))) + (if ((((wValid T M) && (decide ((0 : Int) ≤ th))) && (decide (th < (tth T M)))) = Bool.true) then (th * (spc T M)) else (0 : Int)))))))) || (!(decide ((rcB (toOk T M t th hf pe) (toAt T M t th hf pe) (toAn T M t th hf pe) (toPe T M t th hf pe) (toSp T M t th hf pe) (toAh T M t th hf pe)) = (Int.tmod (nxA T M (Go.IntKind.wrap Go.IntKind.i64 ((Go.IntKind.wrap Go.IntKind.i64 (hf * (23040 : Int))) + (if ((((wValid T M) && (decide ((0 : Int) ≤ th))) && (decide (th < (tth T M)))) = Bool.true) then (th * (spc T M)) else (0 : Int))))) (46080 : Int))))))
          (Bool.false = Bool.true)
          (cnd (decide (th = (0 : Int)))
            (((decide ((Go.IntKind.wrap Go.IntKind.i64 ((toPe T M t th hf pe) * (Go.IntKind.wrap Go.IntKind.i64 (M + (1 : Int))))) ≤ pe)) && (decide (pe < (Go.IntKind.wrap Go.IntKind.i64 ((Go.IntKind.wrap Go.IntKind.i64 ((toPe T M t th hf pe) + (1 : Int))) * (Go.IntKind.wrap Go.IntKind.i64 (M + (1 : Int)))))))) = Bool.true)
            (((decide ((Go.IntKind.wrap Go.IntKind.i64 ((toPe T M t th hf pe) * (1 : Int))) ≤ pe)) && (decide (pe < (Go.IntKind.wrap Go.IntKind.i64 ((Go.IntKind.wrap Go.IntKind.i64 ((toPe T M t th hf pe) + (1 : Int))) * (1 : Int)))))) = Bool.true)))
        False)
      False)
    False))) = EXD Try.prog (conOf [awake_e, atooth_e, wangle_e, wNext_e, aat_e, areach_e]) Try.f9 [.agg [.int .i64 T, .int .i64 M], .cel (.int .i64 t), .cel (.int .i64 th), .cel (.int .i64 hf), .cel (.int .i64 pe)] [] (last_res T M t th hf pe) := by kernel_rfl
theorem last_holds (T : Int) (M : Int) (t : Int) (th : Int) (hf : Int) (pe : Int) (p0 : wfI .i64 T = true) (p1 : wfI .i64 M = true) (p2 : wfI .i64 t = true) (p3 : wfI .i64 th = true) (p4 : wfI .i64 hf = true) (p5 : wfI .i64 pe = true) : (cnd (!(decide ((toErr T M t th hf pe) = (0 : Int))))
  ((!(toOk T M t th hf pe)) = Bool.true)
  (cnd (wValid T M)
    (cnd (isT (Go.IntKind.wrap Go.IntKind.i64 ((Go.IntKind.wrap Go.IntKind.i64 (hf * (23040 : Int))) + (if ((((wValid T M) && (decide ((0 : Int) ≤ th))) && (decide (th < (tth T M)))) = Bool.true) then (th * (spc T M)) else (0 : Int)))))
      (cnd ((!(((((!(decide ((if ((wValid T M) = Bool.true) then (if (((decide ((0 : Int) ≤ th)) && (decide (th < (tth T M)))) = Bool.true) then (0 : Int) else (2 : Int)) else (1 : Int)) = (0 : Int)))) || (!(decide ((0 : Int) = (0 : Int))))) || (!(decide ((atErr (toOk T M t th hf pe) (toAt T M t th hf pe) (toAn T M t th hf pe) (toPe T M t th hf pe) (toSp T M t th hf pe) (toAh T M t th hf pe) t) = (0 : Int))))) || (!(decide ((atA (toOk T M t th hf pe) (toAt T M t th hf pe) (toAn T M t th hf pe) (toPe T M t th hf pe) (toSp T M t th hf pe) (toAh T M t th hf pe) t) = (Go.IntKind.wrap Go.IntKind.i64 ((Go.IntKind.wrap Go.IntKind.i64 (hf * (23040 : Int))) + (if ((((wValid T M) && (decide ((0 : Int) ≤ th))) && (decide (th < (tth T M)))) = Bool.true) then (th * (spc T M)) else (0 : Int)))))))) == Bool.false)) || (decide ((46080 : Int) ≠ (0 : Int))))
        (cnd (((((!(decide ((if ((wValid T M) = Bool.true) then (if (((decide ((0 : Int) ≤ th)) && (decide (th < (tth T M)))) = Bool.true) then (0 : Int) else (2 : Int)) else (1 : Int)) = (0 : Int)))) || (!(decide ((0 : Int) = (0 : Int))))) || (!(decide ((atErr (toOk T M t th hf pe) (toAt T M t th hf pe) (toAn T M t th hf pe) (toPe T M t th hf pe) (toSp T M t th hf pe) (toAh T M t th hf pe) t) = (0 : Int))))) || (!(decide ((atA (toOk T M t th hf pe) (toAt T M t th hf pe) (toAn T M t th hf pe) (toPe T M t th hf pe) (toSp T M t th hf pe) (toAh T M t th hf pe) t) = (Go.IntKind.wrap Go.IntKind.i64 ((Go.IntKind.wrap Go.IntKind.i64 (hf * (23040 : Int))) + (if ((((wValid T M) && (decide ((0 : Int) ≤ th))) && (decide (th < (tth T M)))) = Bool.true) then (th * (spc T M)) else (0 : Int)))))))) || (!(decide ((rcB (toOk T M t th hf pe) (toAt T M t th hf pe) (toAn T M t th hf pe) (toPe T M t th hf pe) (toSp T M t th hf pe) (toAh T M t th hf pe)) = (Int.tmod (nxA T M (Go.IntKind.wrap Go.IntKind.i64 ((Go.IntKind.wrap Go.IntKind.i64 (hf * (23040 : Int))) + (if ((((wValid T M) && (decide ((0 : Int) ≤ th))) && (decide (th < (tth T M)))) = Bool.true) then (th * (spc T M)) else (0 : Int))))) (46080 : Int))))))
          (Bool.false = Bool.true)
          (cnd (decide (th = (0 : Int)))
            (((decide ((Go.IntKind.wrap Go.IntKind.i64 ((toPe T M t th hf pe) * (Go.IntKind.wrap Go.IntKind.i64 (M + (1 : Int))))) ≤ pe)) && (decide (pe < (Go.IntKind.wrap Go.IntKind.i64 ((Go.IntKind.wrap Go.IntKind.i64 ((toPe T M t th hf pe) + (1 : Int))) * (Go.IntKind.wrap Go.IntKind.i64 (M + (1 : Int)))))))) = Bool.true)
            (((decide ((Go.IntKind.wrap Go.IntKind.i64 ((toPe T M t th hf pe) * (1 : Int))) ≤ pe)) && (decide (pe < (Go.IntKind.wrap Go.IntKind.i64 ((Go.IntKind.wrap Go.IntKind.i64 ((toPe T M t th hf pe) + (1 : Int))) * (1 : Int)))))) = Bool.true)))
        False)
      False)
    False)) := by
  have hM := wfI64.1 p1
  cases ho : toOk T M t th hf pe with
  | false =>
    have e : toErr T M t th hf pe ≠ 0 := by
      intro e
      simp [toOk, e] at ho
    simp [e, cnd]
  | true =>
    have e0 : toErr T M t th hf pe = 0 := by simpa [toOk] using ho
    have hval := tooth_valid T M t th hf pe
    rw [ho] at hval
    simp only [cValid, if_true] at hval
    have hce : cErr true (toAt T M t th hf pe) (toAn T M t th hf pe) (toPe T M t th hf pe) (toSp T M t th hf pe) (toAh T M t th hf pe) = 0 := cErr_zero.2 ⟨rfl, hval⟩
    have hk := cKnown_iff.1 hval
    obtain ⟨h, hC⟩ := toOk_iff.1 ho
    obtain ⟨b0, b1, b2, b3⟩ := spc_bd h
    have hh := wValid_iff.1 h
    have hm : tth T M = T - M := by unfold tth; rw [if_pos h]
    obtain ⟨c1, c2, c3, c4, c5, c6, c7⟩ := tC_iff.1 hC
    have hAt : toAt T M t th hf pe = t := by simp [toAt, ho]
    have hAn : toAn T M t th hf pe = hf * 23040 + th * spc T M := by simp [toAn, ho]
    have hAh : toAh T M t th hf pe = if th = tth T M - 1 then (M + 1) * spc T M else spc T M := by simp [toAh, ho]
    have hPe : toPe T M t th hf pe = if th = 0 then pe / (M + 1) else pe := by simp [toPe, ho]
    have hth : th * spc T M ≤ 23040 - spc T M := by
      have h1 := Int.mul_le_mul_of_nonneg_right (show th ≤ T - 1 by omega) (show 0 ≤ spc T M by omega)
      have h2 : (T - 1) * spc T M = 23040 - spc T M := by rw [Int.sub_mul, Int.mul_comm T, b2]; omega
      omega
    have hth0 : 0 ≤ th * spc T M := Int.mul_nonneg c2 (by omega)
    have d1 : ((wValid T M && decide (0 ≤ th)) && decide (th < tth T M)) = true := by simp [h, c2, c3]
    have d2 : (decide (0 ≤ th) && decide (th < tth T M)) = true := by simp [c2, c3]
    simp only [d1, if_true]
    simp only [h, d2, if_true]
    rw [w64 (n := hf * 23040) (by omega) (by omega), w64 (n := hf * 23040 + th * spc T M) (by omega) (by omega)]
    have hpos : isT (hf * 23040 + th * spc T M) = true := isT_iff.2 (by omega)
    -- the angle at the tooth
    have hat : atErr true (toAt T M t th hf pe) (toAn T M t th hf pe) (toPe T M t th hf pe) (toSp T M t th hf pe) (toAh T M t th hf pe) t = 0 := by
      unfold atErr
      rw [if_pos hce, if_pos c1, if_neg (by rw [hAt]; omega)]
    have haa : atA true (toAt T M t th hf pe) (toAn T M t th hf pe) (toPe T M t th hf pe) (toSp T M t th hf pe) (toAh T M t th hf pe) t = hf * 23040 + th * spc T M := by
      unfold atA
      rw [if_pos hat, hAt, Int.sub_self, Int.zero_mul, Int.zero_ediv]
      have : min (toAh T M t th hf pe) 0 = 0 := by omega
      rw [this, hAn]
      omega
    -- the next tooth
    have hmod : (hf * 23040 + th * spc T M) % 23040 = th * spc T M := by omega
    have hdiv : th * spc T M / spc T M = th := Int.mul_ediv_cancel _ (by omega)
    have hnx : nxA T M (hf * 23040 + th * spc T M) = hf * 23040 + th * spc T M + toAh T M t th hf pe := by
      unfold nxA
      rw [hmod, hdiv, hAh]
      have hTs : T * spc T M = 23040 := by rw [Int.mul_comm]; exact b2
      by_cases hl : tth T M ≤ th + 1
      · have e : th = tth T M - 1 := by omega
        rw [if_pos hl, if_pos e]
        have e2 : th * spc T M + (M + 1) * spc T M = T * spc T M := by
          rw [← Int.add_mul, show th + (M + 1) = T by omega]
        omega
      · rw [if_neg hl, if_neg (by omega), Int.add_mul]
        omega
    have hrc : rcB true (toAt T M t th hf pe) (toAn T M t th hf pe) (toPe T M t th hf pe) (toSp T M t th hf pe) (toAh T M t th hf pe) = (hf * 23040 + th * spc T M + toAh T M t th hf pe) % 46080 := by
      unfold rcB
      rw [if_pos hce, hAn]
    have hnx2 : Int.tmod (nxA T M (hf * 23040 + th * spc T M)) 46080 = (hf * 23040 + th * spc T M + toAh T M t th hf pe) % 46080 := by
      rw [hnx]
      exact tmod_pos (by rw [← hAn]; omega)
    rw [hnx2]
    simp only [e0, ho, hat, haa, hrc, hpos, decide_true, Bool.not_true, cnd]
    have d3 : decide ((46080 : Int) ≠ 0) = true := by decide
    simp only [d3, Bool.or_true, Bool.or_false, Bool.or_self]
    rw [w64 (n := M + 1) (by omega) (by omega)]
    have hpe : 1 ≤ toPe T M t th hf pe ∧ toPe T M t th hf pe ≤ 1073741824 := by omega
    by_cases hz : th = 0
    · have hd := hPe
      rw [if_pos hz] at hd
      have j : decide (th = 0) = true := by simpa using hz
      rw [j]
      simp only [Bool.and_eq_true, decide_eq_true_eq]
      generalize toPe T M t th hf pe = q at *
      rcases hh.1 with rfl | rfl
      · rw [w64 (n := q * (1 + 1)) (by omega) (by omega), w64 (n := q + 1) (by omega) (by omega), w64 (n := (q + 1) * (1 + 1)) (by omega) (by omega)]
        omega
      · rw [w64 (n := q * (2 + 1)) (by omega) (by omega), w64 (n := q + 1) (by omega) (by omega), w64 (n := (q + 1) * (2 + 1)) (by omega) (by omega)]
        omega
    · have hd := hPe
      rw [if_neg hz] at hd
      have j : decide (th = 0) = false := by simpa using hz
      rw [j]
      simp only [Bool.and_eq_true, decide_eq_true_eq]
      generalize toPe T M t th hf pe = q at *
      rw [w64 (n := q * 1) (by omega) (by omega), w64 (n := q + 1) (by omega) (by omega), w64 (n := (q + 1) * 1) (by omega) (by omega)]
      omega
theorem last_ok : SoundEnt Try.prog last_e := by
  refine ent_of_ex (Γ := (conOf [awake_e, atooth_e, wangle_e, wNext_e, aat_e, areach_e])) (conOf_sound (scons awake_ok (scons atooth_ok (scons wangle_ok (scons wNext_ok (scons aat_ok (scons areach_ok snil))))))) (by kernel_rfl) Try.func9 (by kernel_rfl) (by kernel_rfl) (fun args rows res h ho => ?_)
  change last_go args rows = some res at h
  unfold last_go at h
  split at h
  · simp only [Option.some.injEq] at h
    subst h
    obtain ⟨p0, p1, p2, p3, p4, p5, _⟩ := ho
    exact EX.of (last_tree _ _ _ _ _ _) (last_holds _ _ _ _ _ _ p0 p1 p2 p3 p4 p5)
  · cases h
end Go.Proofs.Ytfkoopimppkkfaa

