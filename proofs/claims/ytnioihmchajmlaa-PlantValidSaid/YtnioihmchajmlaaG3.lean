/- The engine's plant: the laws of a step and of an injection. -/
import Derived.Test.YtnioihmchajmlaaG2
namespace Go.Proofs.Ytnioihmchajmlaa
set_option linter.unusedVariables false
set_option linter.unusedSimpArgs false
open Go.RowKit

def injects_res (bi : Int) (bf : Int) (bv : Int) (bt : Int) (bm : Int) (be : Int) (bd : Int) (po : Int) (sp : Int) (re : Int) (pr : Int) (fl : Int) (l : List Int) (fu : Int) (ai : Int) : CRes := ⟨[wfI .i64 bi, wfI .i64 bf, wfI .i64 bv, wfI .i64 bt, wfI .i64 bm, wfI .i64 be, wfI .i64 bd, wfI .i64 po, wfI .i64 sp, wfI .i64 re, wfI .i64 pr, wfI .i64 fl, wfL .i64 l, wfI .i64 fu, wfI .i64 ai], .one (.cel (.bool (true))), []⟩
def injects_go : List TV → List RowA → Option CRes := fun args rows =>
  match args, rows with
  | [.agg [.int .i64 bi, .int .i64 bf, .int .i64 bv, .int .i64 bt, .int .i64 bm, .int .i64 be, .int .i64 bd], .agg [.int .i64 po, .int .i64 sp, .int .i64 re, .int .i64 pr, .int .i64 fl, .row 0], .cel (.int .i64 fu), .cel (.int .i64 ai)], [.ints .i64 l] => some (injects_res bi bf bv bt bm be bd po sp re pr fl l fu ai)
  | _, _ => none
def injects_e : Ent := ⟨4, [.ints .i64 []], injects_go⟩
set_option maxRecDepth 100000 in
theorem injects_tree (bi : Int) (bf : Int) (bv : Int) (bt : Int) (bm : Int) (be : Int) (bd : Int) (po : Int) (sp : Int) (re : Int) (pr : Int) (fl : Int) (l : List Int) (fu : Int) (ai : Int) : ((cnd (decide ((40 : Int) < (((List.length l) : Nat) : Int)))
  (Bool.true = Bool.true)
  (cnd ((!((!(bOk bi bf bv bt bm be bd)) == Bool.false)) || (bOk bi bf bv bt bm be bd))
    (cnd ((!(bOk bi bf bv bt bm be bd)) || (!(gB bi bd po sp re pr fl l)))
      (cnd ((!((decide ((stE (bOk bi bf bv bt bm be bd) (gB bi bd po sp re pr fl l) (fOk fu ai)) = (1 : Int))) == Bool.true)) || (decide ((((List.length (kL (stE (bOk bi bf bv bt bm be bd) (gB bi bd po sp re pr fl l) (fOk fu ai)) (jL bd l (jMx bm be fl fu ai)))) : Nat) : Int) ≤ (4611686018427387904 : Int))))
        (cnd ((!((decide ((stE (bOk bi bf bv bt bm be bd) (gB bi bd po sp re pr fl l) (fOk fu ai)) = (1 : Int))) == Bool.true)) || (decide ((((List.length ([] : List Int)) : Nat) : Int) ≤ (4611686018427387904 : Int))))
          ((((decide ((stE (bOk bi bf bv bt bm be bd) (gB bi bd po sp re pr fl l) (fOk fu ai)) = (1 : Int))) && ((((((decide ((kE (stE (bOk bi bf bv bt bm be bd) (gB bi bd po sp re pr fl l) (fOk fu ai)) po) = (0 : Int))) && (decide ((kE (stE (bOk bi bf bv bt bm be bd) (gB bi bd po sp re pr fl l) (fOk fu ai)) sp) = (0 : Int)))) && (decide ((kE (stE (bOk bi bf bv bt bm be bd) (gB bi bd po sp re pr fl l) (fOk fu ai)) re) = (0 : Int)))) && (decide ((kE (stE (bOk bi bf bv bt bm be bd) (gB bi bd po sp re pr fl l) (fOk fu ai)) pr) = (0 : Int)))) && (decide ((kE (stE (bOk bi bf bv bt bm be bd) (gB bi bd po sp re pr fl l) (fOk fu ai)) (jFl bm be fl fu)) = (0 : Int)))) && (decide ((kL (stE (bOk bi bf bv bt bm be bd) (gB bi bd po sp re pr fl l) (fOk fu ai)) (jL bd l (jMx bm be fl fu ai))) = ([] : List Int))))) && (decide ((kE (stE (bOk bi bf bv bt bm be bd) (gB bi bd po sp re pr fl l) (fOk fu ai)) (jC bm be fl fu)) = (0 : Int)))) = Bool.true)
          False)
        False)
      (cnd ((((decide (fu < (0 : Int))) || (decide ((1048576 : Int) < fu))) || (decide (ai < (0 : Int)))) || (decide ((1048576 : Int) < ai)))
        (cnd ((!((decide ((stE (bOk bi bf bv bt bm be bd) (gB bi bd po sp re pr fl l) (fOk fu ai)) = (2 : Int))) == Bool.true)) || (decide ((((List.length (kL (stE (bOk bi bf bv bt bm be bd) (gB bi bd po sp re pr fl l) (fOk fu ai)) (jL bd l (jMx bm be fl fu ai)))) : Nat) : Int) ≤ (4611686018427387904 : Int))))
          (cnd ((!((decide ((stE (bOk bi bf bv bt bm be bd) (gB bi bd po sp re pr fl l) (fOk fu ai)) = (2 : Int))) == Bool.true)) || (decide ((((List.length ([] : List Int)) : Nat) : Int) ≤ (4611686018427387904 : Int))))
            ((((decide ((stE (bOk bi bf bv bt bm be bd) (gB bi bd po sp re pr fl l) (fOk fu ai)) = (2 : Int))) && ((((((decide ((kE (stE (bOk bi bf bv bt bm be bd) (gB bi bd po sp re pr fl l) (fOk fu ai)) po) = (0 : Int))) && (decide ((kE (stE (bOk bi bf bv bt bm be bd) (gB bi bd po sp re pr fl l) (fOk fu ai)) sp) = (0 : Int)))) && (decide ((kE (stE (bOk bi bf bv bt bm be bd) (gB bi bd po sp re pr fl l) (fOk fu ai)) re) = (0 : Int)))) && (decide ((kE (stE (bOk bi bf bv bt bm be bd) (gB bi bd po sp re pr fl l) (fOk fu ai)) pr) = (0 : Int)))) && (decide ((kE (stE (bOk bi bf bv bt bm be bd) (gB bi bd po sp re pr fl l) (fOk fu ai)) (jFl bm be fl fu)) = (0 : Int)))) && (decide ((kL (stE (bOk bi bf bv bt bm be bd) (gB bi bd po sp re pr fl l) (fOk fu ai)) (jL bd l (jMx bm be fl fu ai))) = ([] : List Int))))) && (decide ((kE (stE (bOk bi bf bv bt bm be bd) (gB bi bd po sp re pr fl l) (fOk fu ai)) (jC bm be fl fu)) = (0 : Int)))) = Bool.true)
            False)
          False)
        (cnd (bOk bi bf bv bt bm be bd)
          (cnd (gB bi bd po sp re pr fl l)
            (cnd (fOk fu ai)
              (cnd ((!((decide ((stE (bOk bi bf bv bt bm be bd) (gB bi bd po sp re pr fl l) (fOk fu ai)) = (0 : Int))) == Bool.true)) || (decide ((((List.length (kL (stE (bOk bi bf bv bt bm be bd) (gB bi bd po sp re pr fl l) (fOk fu ai)) (jL bd l (jMx bm be fl fu ai)))) : Nat) : Int) ≤ (4611686018427387904 : Int))))
                (cnd ((!((decide ((stE (bOk bi bf bv bt bm be bd) (gB bi bd po sp re pr fl l) (fOk fu ai)) = (0 : Int))) == Bool.true)) || (decide ((((List.length (jL bd l (jMx bm be fl fu ai))) : Nat) : Int) ≤ (4611686018427387904 : Int))))
                  ((((decide ((stE (bOk bi bf bv bt bm be bd) (gB bi bd po sp re pr fl l) (fOk fu ai)) = (0 : Int))) && ((((((decide ((kE (stE (bOk bi bf bv bt bm be bd) (gB bi bd po sp re pr fl l) (fOk fu ai)) po) = po)) && (decide ((kE (stE (bOk bi bf bv bt bm be bd) (gB bi bd po sp re pr fl l) (fOk fu ai)) sp) = sp))) && (decide ((kE (stE (bOk bi bf bv bt bm be bd) (gB bi bd po sp re pr fl l) (fOk fu ai)) re) = re))) && (decide ((kE (stE (bOk bi bf bv bt bm be bd) (gB bi bd po sp re pr fl l) (fOk fu ai)) pr) = pr))) && (decide ((kE (stE (bOk bi bf bv bt bm be bd) (gB bi bd po sp re pr fl l) (fOk fu ai)) (jFl bm be fl fu)) = (jFl bm be fl fu)))) && (decide ((kL (stE (bOk bi bf bv bt bm be bd) (gB bi bd po sp re pr fl l) (fOk fu ai)) (jL bd l (jMx bm be fl fu ai))) = (jL bd l (jMx bm be fl fu ai)))))) && (decide ((kE (stE (bOk bi bf bv bt bm be bd) (gB bi bd po sp re pr fl l) (fOk fu ai)) (jC bm be fl fu)) = (jC bm be fl fu)))) = Bool.true)
                  False)
                False)
              False)
            False)
          False)))
    False))) = EXD Try.prog (conOf [awake_e, pinject_e, rvalid_e, rgood_e, rsame_e, rinject_e]) Try.f4 [.agg [.int .i64 bi, .int .i64 bf, .int .i64 bv, .int .i64 bt, .int .i64 bm, .int .i64 be, .int .i64 bd], .agg [.int .i64 po, .int .i64 sp, .int .i64 re, .int .i64 pr, .int .i64 fl, .row 0], .cel (.int .i64 fu), .cel (.int .i64 ai)] [.ints .i64 l] (injects_res bi bf bv bt bm be bd po sp re pr fl l fu ai) := by kernel_rfl
theorem injects_holds (bi : Int) (bf : Int) (bv : Int) (bt : Int) (bm : Int) (be : Int) (bd : Int) (po : Int) (sp : Int) (re : Int) (pr : Int) (fl : Int) (l : List Int) (fu : Int) (ai : Int) (p0 : wfI .i64 bi = true) (p1 : wfI .i64 bf = true) (p2 : wfI .i64 bv = true) (p3 : wfI .i64 bt = true) (p4 : wfI .i64 bm = true) (p5 : wfI .i64 be = true) (p6 : wfI .i64 bd = true) (p7 : wfI .i64 po = true) (p8 : wfI .i64 sp = true) (p9 : wfI .i64 re = true) (p10 : wfI .i64 pr = true) (p11 : wfI .i64 fl = true) (p12 : wfL .i64 l = true) (p13 : wfI .i64 fu = true) (p14 : wfI .i64 ai = true) : (cnd (decide ((40 : Int) < (((List.length l) : Nat) : Int)))
  (Bool.true = Bool.true)
  (cnd ((!((!(bOk bi bf bv bt bm be bd)) == Bool.false)) || (bOk bi bf bv bt bm be bd))
    (cnd ((!(bOk bi bf bv bt bm be bd)) || (!(gB bi bd po sp re pr fl l)))
      (cnd ((!((decide ((stE (bOk bi bf bv bt bm be bd) (gB bi bd po sp re pr fl l) (fOk fu ai)) = (1 : Int))) == Bool.true)) || (decide ((((List.length (kL (stE (bOk bi bf bv bt bm be bd) (gB bi bd po sp re pr fl l) (fOk fu ai)) (jL bd l (jMx bm be fl fu ai)))) : Nat) : Int) ≤ (4611686018427387904 : Int))))
        (cnd ((!((decide ((stE (bOk bi bf bv bt bm be bd) (gB bi bd po sp re pr fl l) (fOk fu ai)) = (1 : Int))) == Bool.true)) || (decide ((((List.length ([] : List Int)) : Nat) : Int) ≤ (4611686018427387904 : Int))))
          ((((decide ((stE (bOk bi bf bv bt bm be bd) (gB bi bd po sp re pr fl l) (fOk fu ai)) = (1 : Int))) && ((((((decide ((kE (stE (bOk bi bf bv bt bm be bd) (gB bi bd po sp re pr fl l) (fOk fu ai)) po) = (0 : Int))) && (decide ((kE (stE (bOk bi bf bv bt bm be bd) (gB bi bd po sp re pr fl l) (fOk fu ai)) sp) = (0 : Int)))) && (decide ((kE (stE (bOk bi bf bv bt bm be bd) (gB bi bd po sp re pr fl l) (fOk fu ai)) re) = (0 : Int)))) && (decide ((kE (stE (bOk bi bf bv bt bm be bd) (gB bi bd po sp re pr fl l) (fOk fu ai)) pr) = (0 : Int)))) && (decide ((kE (stE (bOk bi bf bv bt bm be bd) (gB bi bd po sp re pr fl l) (fOk fu ai)) (jFl bm be fl fu)) = (0 : Int)))) && (decide ((kL (stE (bOk bi bf bv bt bm be bd) (gB bi bd po sp re pr fl l) (fOk fu ai)) (jL bd l (jMx bm be fl fu ai))) = ([] : List Int))))) && (decide ((kE (stE (bOk bi bf bv bt bm be bd) (gB bi bd po sp re pr fl l) (fOk fu ai)) (jC bm be fl fu)) = (0 : Int)))) = Bool.true)
          False)
        False)
      (cnd ((((decide (fu < (0 : Int))) || (decide ((1048576 : Int) < fu))) || (decide (ai < (0 : Int)))) || (decide ((1048576 : Int) < ai)))
        (cnd ((!((decide ((stE (bOk bi bf bv bt bm be bd) (gB bi bd po sp re pr fl l) (fOk fu ai)) = (2 : Int))) == Bool.true)) || (decide ((((List.length (kL (stE (bOk bi bf bv bt bm be bd) (gB bi bd po sp re pr fl l) (fOk fu ai)) (jL bd l (jMx bm be fl fu ai)))) : Nat) : Int) ≤ (4611686018427387904 : Int))))
          (cnd ((!((decide ((stE (bOk bi bf bv bt bm be bd) (gB bi bd po sp re pr fl l) (fOk fu ai)) = (2 : Int))) == Bool.true)) || (decide ((((List.length ([] : List Int)) : Nat) : Int) ≤ (4611686018427387904 : Int))))
            ((((decide ((stE (bOk bi bf bv bt bm be bd) (gB bi bd po sp re pr fl l) (fOk fu ai)) = (2 : Int))) && ((((((decide ((kE (stE (bOk bi bf bv bt bm be bd) (gB bi bd po sp re pr fl l) (fOk fu ai)) po) = (0 : Int))) && (decide ((kE (stE (bOk bi bf bv bt bm be bd) (gB bi bd po sp re pr fl l) (fOk fu ai)) sp) = (0 : Int)))) && (decide ((kE (stE (bOk bi bf bv bt bm be bd) (gB bi bd po sp re pr fl l) (fOk fu ai)) re) = (0 : Int)))) && (decide ((kE (stE (bOk bi bf bv bt bm be bd) (gB bi bd po sp re pr fl l) (fOk fu ai)) pr) = (0 : Int)))) && (decide ((kE (stE (bOk bi bf bv bt bm be bd) (gB bi bd po sp re pr fl l) (fOk fu ai)) (jFl bm be fl fu)) = (0 : Int)))) && (decide ((kL (stE (bOk bi bf bv bt bm be bd) (gB bi bd po sp re pr fl l) (fOk fu ai)) (jL bd l (jMx bm be fl fu ai))) = ([] : List Int))))) && (decide ((kE (stE (bOk bi bf bv bt bm be bd) (gB bi bd po sp re pr fl l) (fOk fu ai)) (jC bm be fl fu)) = (0 : Int)))) = Bool.true)
            False)
          False)
        (cnd (bOk bi bf bv bt bm be bd)
          (cnd (gB bi bd po sp re pr fl l)
            (cnd (fOk fu ai)
              (cnd ((!((decide ((stE (bOk bi bf bv bt bm be bd) (gB bi bd po sp re pr fl l) (fOk fu ai)) = (0 : Int))) == Bool.true)) || (decide ((((List.length (kL (stE (bOk bi bf bv bt bm be bd) (gB bi bd po sp re pr fl l) (fOk fu ai)) (jL bd l (jMx bm be fl fu ai)))) : Nat) : Int) ≤ (4611686018427387904 : Int))))
                (cnd ((!((decide ((stE (bOk bi bf bv bt bm be bd) (gB bi bd po sp re pr fl l) (fOk fu ai)) = (0 : Int))) == Bool.true)) || (decide ((((List.length (jL bd l (jMx bm be fl fu ai))) : Nat) : Int) ≤ (4611686018427387904 : Int))))
                  ((((decide ((stE (bOk bi bf bv bt bm be bd) (gB bi bd po sp re pr fl l) (fOk fu ai)) = (0 : Int))) && ((((((decide ((kE (stE (bOk bi bf bv bt bm be bd) (gB bi bd po sp re pr fl l) (fOk fu ai)) po) = po)) && (decide ((kE (stE (bOk bi bf bv bt bm be bd) (gB bi bd po sp re pr fl l) (fOk fu ai)) sp) = sp))) && (decide ((kE (stE (bOk bi bf bv bt bm be bd) (gB bi bd po sp re pr fl l) (fOk fu ai)) re) = re))) && (decide ((kE (stE (bOk bi bf bv bt bm be bd) (gB bi bd po sp re pr fl l) (fOk fu ai)) pr) = pr))) && (decide ((kE (stE (bOk bi bf bv bt bm be bd) (gB bi bd po sp re pr fl l) (fOk fu ai)) (jFl bm be fl fu)) = (jFl bm be fl fu)))) && (decide ((kL (stE (bOk bi bf bv bt bm be bd) (gB bi bd po sp re pr fl l) (fOk fu ai)) (jL bd l (jMx bm be fl fu ai))) = (jL bd l (jMx bm be fl fu ai)))))) && (decide ((kE (stE (bOk bi bf bv bt bm be bd) (gB bi bd po sp re pr fl l) (fOk fu ai)) (jC bm be fl fu)) = (jC bm be fl fu)))) = Bool.true)
                  False)
                False)
              False)
            False)
          False)))
    False)) := by
  by_cases hl : (40 : Int) < l.length
  · simp [hl, cnd]
  · have hlen : ∀ m : Int, (((jL bd l m).length : Nat) : Int) ≤ 4611686018427387904 := by
      intro m
      have : (jL bd l m).length ≤ l.length + 1 := by unfold jL; split <;> simp
      omega
    have j0 : decide ((40 : Int) < l.length) = false := by simpa using hl
    have j1 : decide (((([] : List Int).length : Nat) : Int) ≤ 4611686018427387904) = true := rfl
    have j2 : ∀ m : Int, decide ((((jL bd l m).length : Nat) : Int) ≤ 4611686018427387904) = true := fun m => decide_eq_true (hlen m)
    simp only [j0, cnd]
    cases hb : bOk bi bf bv bt bm be bd with
    | false => simp [stE, kE, kL, j1]
    | true =>
      cases hg : gB bi bd po sp re pr fl l with
      | false => simp [stE, kE, kL, j1]
      | true =>
        have ea : (((decide (fu < 0) || decide (1048576 < fu)) || decide (ai < 0)) || decide (1048576 < ai)) = !fOk fu ai := by
          cases h : fOk fu ai with
          | true =>
            have := fOk_iff.1 h
            simp; omega
          | false =>
            have : ¬ fOk fu ai = true := by rw [h]; decide
            rw [fOk_iff] at this
            simp; omega
        rw [ea]
        cases ha : fOk fu ai with
        | false => simp [stE, kE, kL, j1]
        | true => simp [stE, kE, kL, j2, hlen]
set_option maxHeartbeats 2000000 in
theorem injects_ok : SoundEnt Try.prog injects_e := by
  refine ent_of_ex (Γ := (conOf [awake_e, pinject_e, rvalid_e, rgood_e, rsame_e, rinject_e])) (conOf_sound (scons awake_ok (scons pinject_ok (scons rvalid_ok (scons rgood_ok (scons rsame_ok (scons rinject_ok snil))))))) (by kernel_rfl) Try.func4 (by kernel_rfl) (by kernel_rfl) (fun args rows res h ho => ?_)
  change injects_go args rows = some res at h
  unfold injects_go at h
  split at h
  · simp only [Option.some.injEq] at h
    subst h
    rename_i q0_ q1_ q2_ q3_ q4_ q5_ q6_ q7_ q8_ q9_ q10_ q11_ q13_ q14_ q12_
    obtain ⟨p0, p1, p2, p3, p4, p5, p6, p7, p8, p9, p10, p11, p12, p13, p14, _⟩ := ho
    exact EX.of (injects_tree q0_ q1_ q2_ q3_ q4_ q5_ q6_ q7_ q8_ q9_ q10_ q11_ q12_ q13_ q14_) (injects_holds q0_ q1_ q2_ q3_ q4_ q5_ q6_ q7_ q8_ q9_ q10_ q11_ q12_ q13_ q14_ p0 p1 p2 p3 p4 p5 p6 p7 p8 p9 p10 p11 p12 p13 p14)
  · cases h
def mass_res (bi : Int) (bf : Int) (bv : Int) (bt : Int) (bm : Int) (be : Int) (bd : Int) (po : Int) (sp : Int) (re : Int) (pr : Int) (fl : Int) (l : List Int) (fu : Int) (ai : Int) : CRes := ⟨[wfI .i64 bi, wfI .i64 bf, wfI .i64 bv, wfI .i64 bt, wfI .i64 bm, wfI .i64 be, wfI .i64 bd, wfI .i64 po, wfI .i64 sp, wfI .i64 re, wfI .i64 pr, wfI .i64 fl, wfL .i64 l, wfI .i64 fu, wfI .i64 ai], .one (.cel (.bool (true))), []⟩
def mass_go : List TV → List RowA → Option CRes := fun args rows =>
  match args, rows with
  | [.agg [.int .i64 bi, .int .i64 bf, .int .i64 bv, .int .i64 bt, .int .i64 bm, .int .i64 be, .int .i64 bd], .agg [.int .i64 po, .int .i64 sp, .int .i64 re, .int .i64 pr, .int .i64 fl, .row 0], .cel (.int .i64 fu), .cel (.int .i64 ai)], [.ints .i64 l] => some (mass_res bi bf bv bt bm be bd po sp re pr fl l fu ai)
  | _, _ => none
def mass_e : Ent := ⟨6, [.ints .i64 []], mass_go⟩
set_option maxRecDepth 100000 in
theorem mass_tree (bi : Int) (bf : Int) (bv : Int) (bt : Int) (bm : Int) (be : Int) (bd : Int) (po : Int) (sp : Int) (re : Int) (pr : Int) (fl : Int) (l : List Int) (fu : Int) (ai : Int) : ((cnd (decide ((40 : Int) < (((List.length l) : Nat) : Int)))
  (Bool.true = Bool.true)
  (cnd (!(decide ((stE (bOk bi bf bv bt bm be bd) (gB bi bd po sp re pr fl l) (fOk fu ai)) = (0 : Int))))
    ((decide ((kE (stE (bOk bi bf bv bt bm be bd) (gB bi bd po sp re pr fl l) (fOk fu ai)) (jC bm be fl fu)) = (0 : Int))) = Bool.true)
    ((((((((decide ((Go.IntKind.wrap Go.IntKind.i64 (fu + fl)) = (Go.IntKind.wrap Go.IntKind.i64 ((kE (stE (bOk bi bf bv bt bm be bd) (gB bi bd po sp re pr fl l) (fOk fu ai)) (jC bm be fl fu)) + (kE (stE (bOk bi bf bv bt bm be bd) (gB bi bd po sp re pr fl l) (fOk fu ai)) (jFl bm be fl fu)))))) && (decide ((0 : Int) ≤ (kE (stE (bOk bi bf bv bt bm be bd) (gB bi bd po sp re pr fl l) (fOk fu ai)) (jC bm be fl fu))))) && (decide ((0 : Int) ≤ (kE (stE (bOk bi bf bv bt bm be bd) (gB bi bd po sp re pr fl l) (fOk fu ai)) (jFl bm be fl fu))))) && (decide ((kE (stE (bOk bi bf bv bt bm be bd) (gB bi bd po sp re pr fl l) (fOk fu ai)) po) = po))) && (decide ((kE (stE (bOk bi bf bv bt bm be bd) (gB bi bd po sp re pr fl l) (fOk fu ai)) sp) = sp))) && (decide ((kE (stE (bOk bi bf bv bt bm be bd) (gB bi bd po sp re pr fl l) (fOk fu ai)) re) = re))) && (decide ((kE (stE (bOk bi bf bv bt bm be bd) (gB bi bd po sp re pr fl l) (fOk fu ai)) pr) = pr))) = Bool.true)))) = EXD Try.prog (conOf [awake_e, pinject_e]) Try.f6 [.agg [.int .i64 bi, .int .i64 bf, .int .i64 bv, .int .i64 bt, .int .i64 bm, .int .i64 be, .int .i64 bd], .agg [.int .i64 po, .int .i64 sp, .int .i64 re, .int .i64 pr, .int .i64 fl, .row 0], .cel (.int .i64 fu), .cel (.int .i64 ai)] [.ints .i64 l] (mass_res bi bf bv bt bm be bd po sp re pr fl l fu ai) := by kernel_rfl
theorem mass_holds (bi : Int) (bf : Int) (bv : Int) (bt : Int) (bm : Int) (be : Int) (bd : Int) (po : Int) (sp : Int) (re : Int) (pr : Int) (fl : Int) (l : List Int) (fu : Int) (ai : Int) (p0 : wfI .i64 bi = true) (p1 : wfI .i64 bf = true) (p2 : wfI .i64 bv = true) (p3 : wfI .i64 bt = true) (p4 : wfI .i64 bm = true) (p5 : wfI .i64 be = true) (p6 : wfI .i64 bd = true) (p7 : wfI .i64 po = true) (p8 : wfI .i64 sp = true) (p9 : wfI .i64 re = true) (p10 : wfI .i64 pr = true) (p11 : wfI .i64 fl = true) (p12 : wfL .i64 l = true) (p13 : wfI .i64 fu = true) (p14 : wfI .i64 ai = true) : (cnd (decide ((40 : Int) < (((List.length l) : Nat) : Int)))
  (Bool.true = Bool.true)
  (cnd (!(decide ((stE (bOk bi bf bv bt bm be bd) (gB bi bd po sp re pr fl l) (fOk fu ai)) = (0 : Int))))
    ((decide ((kE (stE (bOk bi bf bv bt bm be bd) (gB bi bd po sp re pr fl l) (fOk fu ai)) (jC bm be fl fu)) = (0 : Int))) = Bool.true)
    ((((((((decide ((Go.IntKind.wrap Go.IntKind.i64 (fu + fl)) = (Go.IntKind.wrap Go.IntKind.i64 ((kE (stE (bOk bi bf bv bt bm be bd) (gB bi bd po sp re pr fl l) (fOk fu ai)) (jC bm be fl fu)) + (kE (stE (bOk bi bf bv bt bm be bd) (gB bi bd po sp re pr fl l) (fOk fu ai)) (jFl bm be fl fu)))))) && (decide ((0 : Int) ≤ (kE (stE (bOk bi bf bv bt bm be bd) (gB bi bd po sp re pr fl l) (fOk fu ai)) (jC bm be fl fu))))) && (decide ((0 : Int) ≤ (kE (stE (bOk bi bf bv bt bm be bd) (gB bi bd po sp re pr fl l) (fOk fu ai)) (jFl bm be fl fu))))) && (decide ((kE (stE (bOk bi bf bv bt bm be bd) (gB bi bd po sp re pr fl l) (fOk fu ai)) po) = po))) && (decide ((kE (stE (bOk bi bf bv bt bm be bd) (gB bi bd po sp re pr fl l) (fOk fu ai)) sp) = sp))) && (decide ((kE (stE (bOk bi bf bv bt bm be bd) (gB bi bd po sp re pr fl l) (fOk fu ai)) re) = re))) && (decide ((kE (stE (bOk bi bf bv bt bm be bd) (gB bi bd po sp re pr fl l) (fOk fu ai)) pr) = pr))) = Bool.true))) := by
  by_cases hl : (40 : Int) < l.length
  · simp [hl, cnd]
  · have j0 : decide ((40 : Int) < l.length) = false := by simpa using hl
    simp only [j0, cnd]
    by_cases hz : stE (bOk bi bf bv bt bm be bd) (gB bi bd po sp re pr fl l) (fOk fu ai) = 0
    · obtain ⟨hb, hg, ha⟩ := stE_zero.1 hz
      have hgH : gH bi bd po sp re pr fl l.length = true := by
        unfold gB at hg
        simp only [Bool.and_eq_true] at hg
        exact hg.1
      have hb2 := bOk_iff.1 hb
      have hg2 := gH_iff.1 hgH
      have ha2 := fOk_iff.1 ha
      obtain ⟨b1, b2, b3, b4⟩ := jB hb2.2.2.2.2.1 hb2.2.2.2.2.2.1 hg2.2.2.2.2.1 ha2.1
      have e1 : jC bm be fl fu + jFl bm be fl fu = fu + fl := by unfold jC jFl; omega
      have e2 : 0 ≤ jC bm be fl fu := by unfold jC; omega
      have e3 : 0 ≤ jFl bm be fl fu := by unfold jFl; omega
      simp [hz, kE_zero, e1, e2, e3]
    · simp [hz, kE]
set_option maxHeartbeats 2000000 in
theorem mass_ok : SoundEnt Try.prog mass_e := by
  refine ent_of_ex (Γ := (conOf [awake_e, pinject_e])) (conOf_sound (scons awake_ok (scons pinject_ok snil))) (by kernel_rfl) Try.func6 (by kernel_rfl) (by kernel_rfl) (fun args rows res h ho => ?_)
  change mass_go args rows = some res at h
  unfold mass_go at h
  split at h
  · simp only [Option.some.injEq] at h
    subst h
    rename_i q0_ q1_ q2_ q3_ q4_ q5_ q6_ q7_ q8_ q9_ q10_ q11_ q13_ q14_ q12_
    obtain ⟨p0, p1, p2, p3, p4, p5, p6, p7, p8, p9, p10, p11, p12, p13, p14, _⟩ := ho
    exact EX.of (mass_tree q0_ q1_ q2_ q3_ q4_ q5_ q6_ q7_ q8_ q9_ q10_ q11_ q12_ q13_ q14_) (mass_holds q0_ q1_ q2_ q3_ q4_ q5_ q6_ q7_ q8_ q9_ q10_ q11_ q12_ q13_ q14_ p0 p1 p2 p3 p4 p5 p6 p7 p8 p9 p10 p11 p12 p13 p14)
  · cases h
def breathes_res (bi : Int) (bf : Int) (bv : Int) (bt : Int) (bm : Int) (be : Int) (bd : Int) (po : Int) (sp : Int) (re : Int) (pr : Int) (fl : Int) (l : List Int) (t : Int) (tk : Int) : CRes := ⟨[wfI .i64 bi, wfI .i64 bf, wfI .i64 bv, wfI .i64 bt, wfI .i64 bm, wfI .i64 be, wfI .i64 bd, wfI .i64 po, wfI .i64 sp, wfI .i64 re, wfI .i64 pr, wfI .i64 fl, wfL .i64 l, wfI .i64 t, wfI .i64 tk], .one (.cel (.bool (true))), []⟩
def breathes_go : List TV → List RowA → Option CRes := fun args rows =>
  match args, rows with
  | [.agg [.int .i64 bi, .int .i64 bf, .int .i64 bv, .int .i64 bt, .int .i64 bm, .int .i64 be, .int .i64 bd], .agg [.int .i64 po, .int .i64 sp, .int .i64 re, .int .i64 pr, .int .i64 fl, .row 0], .cel (.int .i64 t), .cel (.int .i64 tk)], [.ints .i64 l] => some (breathes_res bi bf bv bt bm be bd po sp re pr fl l t tk)
  | _, _ => none
def breathes_e : Ent := ⟨8, [.ints .i64 []], breathes_go⟩
set_option maxRecDepth 100000 in
theorem breathes_tree (bi : Int) (bf : Int) (bv : Int) (bt : Int) (bm : Int) (be : Int) (bd : Int) (po : Int) (sp : Int) (re : Int) (pr : Int) (fl : Int) (l : List Int) (t : Int) (tk : Int) : ((cnd ((decide ((40 : Int) < (((List.length l) : Nat) : Int))) || (!((bOk bi bf bv bt bm be bd) && (gB bi bd po sp re pr fl l))))
  (Bool.true = Bool.true)
  (cnd (!(decide ((stE (bOk bi bf bv bt bm be bd) (gB bi bd po sp re pr fl l) (aOk t (0 : Int) (0 : Int) tk)) = (0 : Int))))
    ((decide ((stE (bOk bi bf bv bt bm be bd) (gB bi bd po sp re pr fl l) (aOk t (0 : Int) (0 : Int) tk)) = (2 : Int))) = Bool.true)
    (((((decide ((50 : Int) ≤ (kE (stE (bOk bi bf bv bt bm be bd) (gB bi bd po sp re pr fl l) (aOk t (0 : Int) (0 : Int) tk)) (xPr bv bt sp pr t tk)))) && (decide ((kE (stE (bOk bi bf bv bt bm be bd) (gB bi bd po sp re pr fl l) (aOk t (0 : Int) (0 : Int) tk)) (xPr bv bt sp pr t tk)) ≤ (1013 : Int)))) && ((decide ((0 : Int) < t)) || (decide ((kE (stE (bOk bi bf bv bt bm be bd) (gB bi bd po sp re pr fl l) (aOk t (0 : Int) (0 : Int) tk)) (xPr bv bt sp pr t tk)) ≤ pr)))) && ((decide ((0 : Int) < sp)) || (decide (pr ≤ (kE (stE (bOk bi bf bv bt bm be bd) (gB bi bd po sp re pr fl l) (aOk t (0 : Int) (0 : Int) tk)) (xPr bv bt sp pr t tk)))))) = Bool.true)))) = EXD Try.prog (conOf [awake_e, pgood_e, pstep_e]) Try.f8 [.agg [.int .i64 bi, .int .i64 bf, .int .i64 bv, .int .i64 bt, .int .i64 bm, .int .i64 be, .int .i64 bd], .agg [.int .i64 po, .int .i64 sp, .int .i64 re, .int .i64 pr, .int .i64 fl, .row 0], .cel (.int .i64 t), .cel (.int .i64 tk)] [.ints .i64 l] (breathes_res bi bf bv bt bm be bd po sp re pr fl l t tk) := by kernel_rfl
theorem breathes_holds (bi : Int) (bf : Int) (bv : Int) (bt : Int) (bm : Int) (be : Int) (bd : Int) (po : Int) (sp : Int) (re : Int) (pr : Int) (fl : Int) (l : List Int) (t : Int) (tk : Int) (p0 : wfI .i64 bi = true) (p1 : wfI .i64 bf = true) (p2 : wfI .i64 bv = true) (p3 : wfI .i64 bt = true) (p4 : wfI .i64 bm = true) (p5 : wfI .i64 be = true) (p6 : wfI .i64 bd = true) (p7 : wfI .i64 po = true) (p8 : wfI .i64 sp = true) (p9 : wfI .i64 re = true) (p10 : wfI .i64 pr = true) (p11 : wfI .i64 fl = true) (p12 : wfL .i64 l = true) (p13 : wfI .i64 t = true) (p14 : wfI .i64 tk = true) : (cnd ((decide ((40 : Int) < (((List.length l) : Nat) : Int))) || (!((bOk bi bf bv bt bm be bd) && (gB bi bd po sp re pr fl l))))
  (Bool.true = Bool.true)
  (cnd (!(decide ((stE (bOk bi bf bv bt bm be bd) (gB bi bd po sp re pr fl l) (aOk t (0 : Int) (0 : Int) tk)) = (0 : Int))))
    ((decide ((stE (bOk bi bf bv bt bm be bd) (gB bi bd po sp re pr fl l) (aOk t (0 : Int) (0 : Int) tk)) = (2 : Int))) = Bool.true)
    (((((decide ((50 : Int) ≤ (kE (stE (bOk bi bf bv bt bm be bd) (gB bi bd po sp re pr fl l) (aOk t (0 : Int) (0 : Int) tk)) (xPr bv bt sp pr t tk)))) && (decide ((kE (stE (bOk bi bf bv bt bm be bd) (gB bi bd po sp re pr fl l) (aOk t (0 : Int) (0 : Int) tk)) (xPr bv bt sp pr t tk)) ≤ (1013 : Int)))) && ((decide ((0 : Int) < t)) || (decide ((kE (stE (bOk bi bf bv bt bm be bd) (gB bi bd po sp re pr fl l) (aOk t (0 : Int) (0 : Int) tk)) (xPr bv bt sp pr t tk)) ≤ pr)))) && ((decide ((0 : Int) < sp)) || (decide (pr ≤ (kE (stE (bOk bi bf bv bt bm be bd) (gB bi bd po sp re pr fl l) (aOk t (0 : Int) (0 : Int) tk)) (xPr bv bt sp pr t tk)))))) = Bool.true))) := by
  by_cases hq : (l.length : Int) ≤ 40 ∧ (bOk bi bf bv bt bm be bd && gB bi bd po sp re pr fl l) = true
  · have hbg := hq.2
    simp only [Bool.and_eq_true] at hbg
    obtain ⟨hb, hg⟩ := hbg
    have j0 : (decide ((40 : Int) < l.length) || (!(bOk bi bf bv bt bm be bd && gB bi bd po sp re pr fl l))) = false := by
      rw [hq.2]; simp; omega
    simp only [j0, cnd]
    cases ha : aOk t 0 0 tk with
    | false => simp [hb, hg, stE]
    | true =>
      have hz : stE (bOk bi bf bv bt bm be bd) (gB bi bd po sp re pr fl l) true = 0 := by rw [hb, hg]; rfl
      have hgH : gH bi bd po sp re pr fl l.length = true := by
        unfold gB at hg
        simp only [Bool.and_eq_true] at hg
        exact hg.1
      have hb2 := bOk_iff.1 hb
      have hg2 := gH_iff.1 hgH
      have ha2 := aOk_iff.1 ha
      have hP : 50 ≤ xPr bv bt sp pr t tk ∧ xPr bv bt sp pr t tk ≤ 1013 := by unfold xPr; omega
      have hA : t ≤ 0 → xPr bv bt sp pr t tk ≤ pr := by
        intro h
        have ht : t = 0 := by omega
        have m9 := mulN (a := sp) (b := pr) (A := 262144) (B := 1013) (by omega) (by omega) (by omega) (by omega)
        have m10 := quo_pos m9.1 (show (1 : Int) ≤ 1024 by omega)
        have hd : dPr bv bt sp pr t tk ≤ 0 := by
          unfold dPr
          rw [ht, Int.mul_zero, Int.zero_mul]
          refine Int.ediv_le_of_le_mul (by omega) ?_
          have h2 : (0 / 1000 - sp * pr / 1024) * tk ≤ 0 := Int.mul_nonpos_of_nonpos_of_nonneg (by omega) (by omega)
          omega
        unfold xPr; omega
      have hB : sp ≤ 0 → pr ≤ xPr bv bt sp pr t tk := by
        intro h
        have hs : sp = 0 := by omega
        have m6 := mulN (a := bt) (b := t) (A := 65536) (B := 1000) (by omega) (by omega) (by omega) (by omega)
        have m7 := mulN (a := bt * t) (b := 1013 - pr) (A := 65536000) (B := 1000) (by omega) (by omega) (by omega) (by omega)
        have m8 := quo_pos m7.1 (show (1 : Int) ≤ 1000 by omega)
        have hd : 0 ≤ dPr bv bt sp pr t tk := by
          unfold dPr
          rw [hs, Int.zero_mul]
          refine Int.ediv_nonneg ?_ (by omega)
          exact Int.mul_nonneg (by omega) (by omega)
        unfold xPr; omega
      simp only [hz, kE_zero, decide_true, Bool.not_true]
      simp only [Bool.and_eq_true, Bool.or_eq_true, decide_eq_true_eq]
      omega
  · have j0 : (decide ((40 : Int) < l.length) || (!(bOk bi bf bv bt bm be bd && gB bi bd po sp re pr fl l))) = true := by
      cases h : (bOk bi bf bv bt bm be bd && gB bi bd po sp re pr fl l) with
      | false => simp
      | true =>
        have : ¬ (l.length : Int) ≤ 40 := fun h2 => hq ⟨h2, h⟩
        simp; omega
    simp only [j0, cnd]
set_option maxHeartbeats 2000000 in
theorem breathes_ok : SoundEnt Try.prog breathes_e := by
  refine ent_of_ex (Γ := (conOf [awake_e, pgood_e, pstep_e])) (conOf_sound (scons awake_ok (scons pgood_ok (scons pstep_ok snil)))) (by kernel_rfl) Try.func8 (by kernel_rfl) (by kernel_rfl) (fun args rows res h ho => ?_)
  change breathes_go args rows = some res at h
  unfold breathes_go at h
  split at h
  · simp only [Option.some.injEq] at h
    subst h
    rename_i q0_ q1_ q2_ q3_ q4_ q5_ q6_ q7_ q8_ q9_ q10_ q11_ q13_ q14_ q12_
    obtain ⟨p0, p1, p2, p3, p4, p5, p6, p7, p8, p9, p10, p11, p12, p13, p14, _⟩ := ho
    exact EX.of (breathes_tree q0_ q1_ q2_ q3_ q4_ q5_ q6_ q7_ q8_ q9_ q10_ q11_ q12_ q13_ q14_) (breathes_holds q0_ q1_ q2_ q3_ q4_ q5_ q6_ q7_ q8_ q9_ q10_ q11_ q12_ q13_ q14_ p0 p1 p2 p3 p4 p5 p6 p7 p8 p9 p10 p11 p12 p13 p14)
  · cases h
def valid_res (bi : Int) (bf : Int) (bv : Int) (bt : Int) (bm : Int) (be : Int) (bd : Int) (po : Int) (sp : Int) (re : Int) (pr : Int) (fl : Int) (l : List Int) : CRes := ⟨[wfI .i64 bi, wfI .i64 bf, wfI .i64 bv, wfI .i64 bt, wfI .i64 bm, wfI .i64 be, wfI .i64 bd, wfI .i64 po, wfI .i64 sp, wfI .i64 re, wfI .i64 pr, wfI .i64 fl, wfL .i64 l], .one (.cel (.bool (true))), []⟩
def valid_go : List TV → List RowA → Option CRes := fun args rows =>
  match args, rows with
  | [.agg [.int .i64 bi, .int .i64 bf, .int .i64 bv, .int .i64 bt, .int .i64 bm, .int .i64 be, .int .i64 bd], .agg [.int .i64 po, .int .i64 sp, .int .i64 re, .int .i64 pr, .int .i64 fl, .row 0]], [.ints .i64 l] => some (valid_res bi bf bv bt bm be bd po sp re pr fl l)
  | _, _ => none
def valid_e : Ent := ⟨9, [.ints .i64 []], valid_go⟩
set_option maxRecDepth 100000 in
theorem valid_tree (bi : Int) (bf : Int) (bv : Int) (bt : Int) (bm : Int) (be : Int) (bd : Int) (po : Int) (sp : Int) (re : Int) (pr : Int) (fl : Int) (l : List Int) : ((cnd (decide ((40 : Int) < (((List.length l) : Nat) : Int)))
  (Bool.true = Bool.true)
  (cnd (decide ((0 : Int) < (((List.length l) : Nat) : Int)))
    (cnd (decide ((0 : Int) < (((List.length l) : Nat) : Int)))
      (cnd ((!(((!((bOk bi bf bv bt bm be bd) == (bOk bi bf bv bt bm be bd))) == Bool.false) && ((bOk bi bf bv bt bm be bd) == Bool.true))) || (bOk bi bf bv bt bm be bd))
        (cnd (((!((bOk bi bf bv bt bm be bd) == (bOk bi bf bv bt bm be bd))) || (!(((bOk bi bf bv bt bm be bd) && (gB bi bd po sp re pr fl l)) == ((bOk bi bf bv bt bm be bd) && (gB bi bd po sp re pr fl l))))) || (!(decide ((List.getD l 0 (1000 : Int)) = (List.getD l (Int.toNat (0 : Int)) (0 : Int))))))
          (Bool.false = Bool.true)
          (cnd (!(bOk bi bf bv bt bm be bd))
            (cnd ((!((decide ((cond (bOk bi bf bv bt bm be bd) (0 : Int) (1 : Int)) = (1 : Int))) == Bool.true)) || (decide ((((List.length ([] : List Int)) : Nat) : Int) ≤ (4611686018427387904 : Int))))
              (cnd ((!((decide ((cond (bOk bi bf bv bt bm be bd) (0 : Int) (1 : Int)) = (1 : Int))) == Bool.true)) || (decide ((((List.length ([] : List Int)) : Nat) : Int) ≤ (4611686018427387904 : Int))))
                (((decide ((cond (bOk bi bf bv bt bm be bd) (0 : Int) (1 : Int)) = (1 : Int))) && ((((((decide ((0 : Int) = (0 : Int))) && (decide ((0 : Int) = (0 : Int)))) && (decide ((0 : Int) = (0 : Int)))) && (decide ((cond (bOk bi bf bv bt bm be bd) (1013 : Int) (0 : Int)) = (0 : Int)))) && (decide ((0 : Int) = (0 : Int)))) && (decide (([] : List Int) = ([] : List Int))))) = Bool.true)
                False)
              False)
            (cnd ((!((decide ((cond (bOk bi bf bv bt bm be bd) (0 : Int) (1 : Int)) = (0 : Int))) == Bool.true)) || (decide ((((List.length ([] : List Int)) : Nat) : Int) ≤ (4611686018427387904 : Int))))
              (cnd ((!((decide ((cond (bOk bi bf bv bt bm be bd) (0 : Int) (1 : Int)) = (0 : Int))) == Bool.true)) || (decide ((((List.length ([] : List Int)) : Nat) : Int) ≤ (4611686018427387904 : Int))))
                (((decide ((cond (bOk bi bf bv bt bm be bd) (0 : Int) (1 : Int)) = (0 : Int))) && ((((((decide ((0 : Int) = (0 : Int))) && (decide ((0 : Int) = (0 : Int)))) && (decide ((0 : Int) = (0 : Int)))) && (decide ((cond (bOk bi bf bv bt bm be bd) (1013 : Int) (0 : Int)) = (1013 : Int)))) && (decide ((0 : Int) = (0 : Int)))) && (decide (([] : List Int) = ([] : List Int))))) = Bool.true)
                False)
              False)))
        False)
      False)
    (cnd ((!(((!((bOk bi bf bv bt bm be bd) == (bOk bi bf bv bt bm be bd))) == Bool.false) && ((bOk bi bf bv bt bm be bd) == Bool.true))) || (bOk bi bf bv bt bm be bd))
      (cnd (((!((bOk bi bf bv bt bm be bd) == (bOk bi bf bv bt bm be bd))) || (!(((bOk bi bf bv bt bm be bd) && (gB bi bd po sp re pr fl l)) == ((bOk bi bf bv bt bm be bd) && (gB bi bd po sp re pr fl l))))) || (!(decide ((List.getD l 0 (1000 : Int)) = (1000 : Int)))))
        (Bool.false = Bool.true)
        (cnd (!(bOk bi bf bv bt bm be bd))
          (cnd ((!((decide ((cond (bOk bi bf bv bt bm be bd) (0 : Int) (1 : Int)) = (1 : Int))) == Bool.true)) || (decide ((((List.length ([] : List Int)) : Nat) : Int) ≤ (4611686018427387904 : Int))))
            (cnd ((!((decide ((cond (bOk bi bf bv bt bm be bd) (0 : Int) (1 : Int)) = (1 : Int))) == Bool.true)) || (decide ((((List.length ([] : List Int)) : Nat) : Int) ≤ (4611686018427387904 : Int))))
              (((decide ((cond (bOk bi bf bv bt bm be bd) (0 : Int) (1 : Int)) = (1 : Int))) && ((((((decide ((0 : Int) = (0 : Int))) && (decide ((0 : Int) = (0 : Int)))) && (decide ((0 : Int) = (0 : Int)))) && (decide ((cond (bOk bi bf bv bt bm be bd) (1013 : Int) (0 : Int)) = (0 : Int)))) && (decide ((0 : Int) = (0 : Int)))) && (decide (([] : List Int) = ([] : List Int))))) = Bool.true)
              False)
            False)
          (cnd ((!((decide ((cond (bOk bi bf bv bt bm be bd) (0 : Int) (1 : Int)) = (0 : Int))) == Bool.true)) || (decide ((((List.length ([] : List Int)) : Nat) : Int) ≤ (4611686018427387904 : Int))))
            (cnd ((!((decide ((cond (bOk bi bf bv bt bm be bd) (0 : Int) (1 : Int)) = (0 : Int))) == Bool.true)) || (decide ((((List.length ([] : List Int)) : Nat) : Int) ≤ (4611686018427387904 : Int))))
              (((decide ((cond (bOk bi bf bv bt bm be bd) (0 : Int) (1 : Int)) = (0 : Int))) && ((((((decide ((0 : Int) = (0 : Int))) && (decide ((0 : Int) = (0 : Int)))) && (decide ((0 : Int) = (0 : Int)))) && (decide ((cond (bOk bi bf bv bt bm be bd) (1013 : Int) (0 : Int)) = (1013 : Int)))) && (decide ((0 : Int) = (0 : Int)))) && (decide (([] : List Int) = ([] : List Int))))) = Bool.true)
              False)
            False)))
      False)))) = EXD Try.prog (conOf [awake_e, rvalid_e, pnew_e, pvalid_e, pgood_e, rgood_e, plambda_e, rsame_e]) Try.f9 [.agg [.int .i64 bi, .int .i64 bf, .int .i64 bv, .int .i64 bt, .int .i64 bm, .int .i64 be, .int .i64 bd], .agg [.int .i64 po, .int .i64 sp, .int .i64 re, .int .i64 pr, .int .i64 fl, .row 0]] [.ints .i64 l] (valid_res bi bf bv bt bm be bd po sp re pr fl l) := by kernel_rfl
theorem valid_holds (bi : Int) (bf : Int) (bv : Int) (bt : Int) (bm : Int) (be : Int) (bd : Int) (po : Int) (sp : Int) (re : Int) (pr : Int) (fl : Int) (l : List Int) (p0 : wfI .i64 bi = true) (p1 : wfI .i64 bf = true) (p2 : wfI .i64 bv = true) (p3 : wfI .i64 bt = true) (p4 : wfI .i64 bm = true) (p5 : wfI .i64 be = true) (p6 : wfI .i64 bd = true) (p7 : wfI .i64 po = true) (p8 : wfI .i64 sp = true) (p9 : wfI .i64 re = true) (p10 : wfI .i64 pr = true) (p11 : wfI .i64 fl = true) (p12 : wfL .i64 l = true) : (cnd (decide ((40 : Int) < (((List.length l) : Nat) : Int)))
  (Bool.true = Bool.true)
  (cnd (decide ((0 : Int) < (((List.length l) : Nat) : Int)))
    (cnd (decide ((0 : Int) < (((List.length l) : Nat) : Int)))
      (cnd ((!(((!((bOk bi bf bv bt bm be bd) == (bOk bi bf bv bt bm be bd))) == Bool.false) && ((bOk bi bf bv bt bm be bd) == Bool.true))) || (bOk bi bf bv bt bm be bd))
        (cnd (((!((bOk bi bf bv bt bm be bd) == (bOk bi bf bv bt bm be bd))) || (!(((bOk bi bf bv bt bm be bd) && (gB bi bd po sp re pr fl l)) == ((bOk bi bf bv bt bm be bd) && (gB bi bd po sp re pr fl l))))) || (!(decide ((List.getD l 0 (1000 : Int)) = (List.getD l (Int.toNat (0 : Int)) (0 : Int))))))
          (Bool.false = Bool.true)
          (cnd (!(bOk bi bf bv bt bm be bd))
            (cnd ((!((decide ((cond (bOk bi bf bv bt bm be bd) (0 : Int) (1 : Int)) = (1 : Int))) == Bool.true)) || (decide ((((List.length ([] : List Int)) : Nat) : Int) ≤ (4611686018427387904 : Int))))
              (cnd ((!((decide ((cond (bOk bi bf bv bt bm be bd) (0 : Int) (1 : Int)) = (1 : Int))) == Bool.true)) || (decide ((((List.length ([] : List Int)) : Nat) : Int) ≤ (4611686018427387904 : Int))))
                (((decide ((cond (bOk bi bf bv bt bm be bd) (0 : Int) (1 : Int)) = (1 : Int))) && ((((((decide ((0 : Int) = (0 : Int))) && (decide ((0 : Int) = (0 : Int)))) && (decide ((0 : Int) = (0 : Int)))) && (decide ((cond (bOk bi bf bv bt bm be bd) (1013 : Int) (0 : Int)) = (0 : Int)))) && (decide ((0 : Int) = (0 : Int)))) && (decide (([] : List Int) = ([] : List Int))))) = Bool.true)
                False)
              False)
            (cnd ((!((decide ((cond (bOk bi bf bv bt bm be bd) (0 : Int) (1 : Int)) = (0 : Int))) == Bool.true)) || (decide ((((List.length ([] : List Int)) : Nat) : Int) ≤ (4611686018427387904 : Int))))
              (cnd ((!((decide ((cond (bOk bi bf bv bt bm be bd) (0 : Int) (1 : Int)) = (0 : Int))) == Bool.true)) || (decide ((((List.length ([] : List Int)) : Nat) : Int) ≤ (4611686018427387904 : Int))))
                (((decide ((cond (bOk bi bf bv bt bm be bd) (0 : Int) (1 : Int)) = (0 : Int))) && ((((((decide ((0 : Int) = (0 : Int))) && (decide ((0 : Int) = (0 : Int)))) && (decide ((0 : Int) = (0 : Int)))) && (decide ((cond (bOk bi bf bv bt bm be bd) (1013 : Int) (0 : Int)) = (1013 : Int)))) && (decide ((0 : Int) = (0 : Int)))) && (decide (([] : List Int) = ([] : List Int))))) = Bool.true)
                False)
              False)))
        False)
      False)
    (cnd ((!(((!((bOk bi bf bv bt bm be bd) == (bOk bi bf bv bt bm be bd))) == Bool.false) && ((bOk bi bf bv bt bm be bd) == Bool.true))) || (bOk bi bf bv bt bm be bd))
      (cnd (((!((bOk bi bf bv bt bm be bd) == (bOk bi bf bv bt bm be bd))) || (!(((bOk bi bf bv bt bm be bd) && (gB bi bd po sp re pr fl l)) == ((bOk bi bf bv bt bm be bd) && (gB bi bd po sp re pr fl l))))) || (!(decide ((List.getD l 0 (1000 : Int)) = (1000 : Int)))))
        (Bool.false = Bool.true)
        (cnd (!(bOk bi bf bv bt bm be bd))
          (cnd ((!((decide ((cond (bOk bi bf bv bt bm be bd) (0 : Int) (1 : Int)) = (1 : Int))) == Bool.true)) || (decide ((((List.length ([] : List Int)) : Nat) : Int) ≤ (4611686018427387904 : Int))))
            (cnd ((!((decide ((cond (bOk bi bf bv bt bm be bd) (0 : Int) (1 : Int)) = (1 : Int))) == Bool.true)) || (decide ((((List.length ([] : List Int)) : Nat) : Int) ≤ (4611686018427387904 : Int))))
              (((decide ((cond (bOk bi bf bv bt bm be bd) (0 : Int) (1 : Int)) = (1 : Int))) && ((((((decide ((0 : Int) = (0 : Int))) && (decide ((0 : Int) = (0 : Int)))) && (decide ((0 : Int) = (0 : Int)))) && (decide ((cond (bOk bi bf bv bt bm be bd) (1013 : Int) (0 : Int)) = (0 : Int)))) && (decide ((0 : Int) = (0 : Int)))) && (decide (([] : List Int) = ([] : List Int))))) = Bool.true)
              False)
            False)
          (cnd ((!((decide ((cond (bOk bi bf bv bt bm be bd) (0 : Int) (1 : Int)) = (0 : Int))) == Bool.true)) || (decide ((((List.length ([] : List Int)) : Nat) : Int) ≤ (4611686018427387904 : Int))))
            (cnd ((!((decide ((cond (bOk bi bf bv bt bm be bd) (0 : Int) (1 : Int)) = (0 : Int))) == Bool.true)) || (decide ((((List.length ([] : List Int)) : Nat) : Int) ≤ (4611686018427387904 : Int))))
              (((decide ((cond (bOk bi bf bv bt bm be bd) (0 : Int) (1 : Int)) = (0 : Int))) && ((((((decide ((0 : Int) = (0 : Int))) && (decide ((0 : Int) = (0 : Int)))) && (decide ((0 : Int) = (0 : Int)))) && (decide ((cond (bOk bi bf bv bt bm be bd) (1013 : Int) (0 : Int)) = (1013 : Int)))) && (decide ((0 : Int) = (0 : Int)))) && (decide (([] : List Int) = ([] : List Int))))) = Bool.true)
              False)
            False)))
      False))) := by
  by_cases hl : (40 : Int) < l.length
  · simp [hl, cnd]
  · have j0 : decide ((40 : Int) < l.length) = false := by simpa using hl
    have j1 : decide (((([] : List Int).length : Nat) : Int) ≤ 4611686018427387904) = true := rfl
    simp only [j0, cnd]
    cases l with
    | nil => cases bOk bi bf bv bt bm be bd <;> simp [j1]
    | cons x r =>
      have j2 : decide ((0 : Int) < (((x :: r).length : Nat) : Int)) = true := by rw [decide_eq_true_eq, List.length_cons]; omega
      simp only [j2]
      cases bOk bi bf bv bt bm be bd <;> simp [j1]
set_option maxHeartbeats 2000000 in
theorem valid_ok : SoundEnt Try.prog valid_e := by
  refine ent_of_ex (Γ := (conOf [awake_e, rvalid_e, pnew_e, pvalid_e, pgood_e, rgood_e, plambda_e, rsame_e])) (conOf_sound (scons awake_ok (scons rvalid_ok (scons pnew_ok (scons pvalid_ok (scons pgood_ok (scons rgood_ok (scons plambda_ok (scons rsame_ok snil))))))))) (by kernel_rfl) Try.func9 (by kernel_rfl) (by kernel_rfl) (fun args rows res h ho => ?_)
  change valid_go args rows = some res at h
  unfold valid_go at h
  split at h
  · simp only [Option.some.injEq] at h
    subst h
    rename_i q0_ q1_ q2_ q3_ q4_ q5_ q6_ q7_ q8_ q9_ q10_ q11_ q12_
    obtain ⟨p0, p1, p2, p3, p4, p5, p6, p7, p8, p9, p10, p11, p12, _⟩ := ho
    exact EX.of (valid_tree q0_ q1_ q2_ q3_ q4_ q5_ q6_ q7_ q8_ q9_ q10_ q11_ q12_) (valid_holds q0_ q1_ q2_ q3_ q4_ q5_ q6_ q7_ q8_ q9_ q10_ q11_ q12_ p0 p1 p2 p3 p4 p5 p6 p7 p8 p9 p10 p11 p12)
  · cases h
end Go.Proofs.Ytnioihmchajmlaa

