/- PlantSteps. -/
import Derived.Test.YtnioihmchajmlaaG2
namespace Go.Proofs.Ytnioihmchajmlaa
set_option linter.unusedVariables false
set_option linter.unusedSimpArgs false
open Go.RowKit

def steps_res (bi : Int) (bf : Int) (bv : Int) (bt : Int) (bm : Int) (be : Int) (bd : Int) (po : Int) (sp : Int) (re : Int) (pr : Int) (fl : Int) (l : List Int) (t : Int) (tq : Int) (ld : Int) (tk : Int) : CRes := ⟨[wfI .i64 bi, wfI .i64 bf, wfI .i64 bv, wfI .i64 bt, wfI .i64 bm, wfI .i64 be, wfI .i64 bd, wfI .i64 po, wfI .i64 sp, wfI .i64 re, wfI .i64 pr, wfI .i64 fl, wfL .i64 l, wfI .i64 t, wfI .i64 tq, wfI .i64 ld, wfI .i64 tk], .one (.cel (.bool (true))), []⟩
def steps_go : List TV → List RowA → List (List CV) → Option CRes := fun args rows caps =>
  match args, rows, caps with
  | [.agg [.int .i64 bi, .int .i64 bf, .int .i64 bv, .int .i64 bt, .int .i64 bm, .int .i64 be, .int .i64 bd], .agg [.int .i64 po, .int .i64 sp, .int .i64 re, .int .i64 pr, .int .i64 fl, .row 0], .cel (.int .i64 t), .cel (.int .i64 tq), .cel (.int .i64 ld), .cel (.int .i64 tk)], [.ints .i64 l], [] => some (steps_res bi bf bv bt bm be bd po sp re pr fl l t tq ld tk)
  | _, _, _ => none
def steps_e : Ent := ⟨3, [.ints .i64 []], steps_go⟩
set_option maxRecDepth 100000 in
theorem steps_tree (bi : Int) (bf : Int) (bv : Int) (bt : Int) (bm : Int) (be : Int) (bd : Int) (po : Int) (sp : Int) (re : Int) (pr : Int) (fl : Int) (l : List Int) (t : Int) (tq : Int) (ld : Int) (tk : Int) : ((cnd (decide ((40 : Int) < (((List.length l) : Nat) : Int)))
  (Bool.true = Bool.true)
  (cnd ((!((!(bOk bi bf bv bt bm be bd)) == Bool.false)) || (bOk bi bf bv bt bm be bd))
    (cnd ((!(bOk bi bf bv bt bm be bd)) || (!(gB bi bd po sp re pr fl l)))
      (cnd ((!((decide ((stE (bOk bi bf bv bt bm be bd) (gB bi bd po sp re pr fl l) (aOk t tq ld tk)) = (1 : Int))) == Bool.true)) || (decide ((((List.length (kL (stE (bOk bi bf bv bt bm be bd) (gB bi bd po sp re pr fl l) (aOk t tq ld tk)) l)) : Nat) : Int) ≤ (4611686018427387904 : Int))))
        (cnd ((!((decide ((stE (bOk bi bf bv bt bm be bd) (gB bi bd po sp re pr fl l) (aOk t tq ld tk)) = (1 : Int))) == Bool.true)) || (decide ((((List.length ([] : List Int)) : Nat) : Int) ≤ (4611686018427387904 : Int))))
          ((((decide ((stE (bOk bi bf bv bt bm be bd) (gB bi bd po sp re pr fl l) (aOk t tq ld tk)) = (1 : Int))) && ((((((decide ((kE (stE (bOk bi bf bv bt bm be bd) (gB bi bd po sp re pr fl l) (aOk t tq ld tk)) (xPo po sp tk)) = (0 : Int))) && (decide ((kE (stE (bOk bi bf bv bt bm be bd) (gB bi bd po sp re pr fl l) (aOk t tq ld tk)) (xSp bi bf sp re tq ld tk)) = (0 : Int)))) && (decide ((kE (stE (bOk bi bf bv bt bm be bd) (gB bi bd po sp re pr fl l) (aOk t tq ld tk)) (xRe bi bf sp re tq ld tk)) = (0 : Int)))) && (decide ((kE (stE (bOk bi bf bv bt bm be bd) (gB bi bd po sp re pr fl l) (aOk t tq ld tk)) (xPr bv bt sp pr t tk)) = (0 : Int)))) && (decide ((kE (stE (bOk bi bf bv bt bm be bd) (gB bi bd po sp re pr fl l) (aOk t tq ld tk)) fl) = (0 : Int)))) && (decide ((kL (stE (bOk bi bf bv bt bm be bd) (gB bi bd po sp re pr fl l) (aOk t tq ld tk)) l) = ([] : List Int))))) && ((decide ((kE (stE (bOk bi bf bv bt bm be bd) (gB bi bd po sp re pr fl l) (aOk t tq ld tk)) tk) = (0 : Int))) && ((decide ((kE (stE (bOk bi bf bv bt bm be bd) (gB bi bd po sp re pr fl l) (aOk t tq ld tk)) sp) = (0 : Int))) && Bool.true))) = Bool.true)
          False)
        False)
      (cnd ((((((((decide (t < (0 : Int))) || (decide ((1000 : Int) < t))) || (decide (tq < (-(5000 : Int))))) || (decide ((10000 : Int) < tq))) || (decide (ld < (-(10000 : Int))))) || (decide ((10000 : Int) < ld))) || (decide (tk < (1 : Int)))) || (decide ((10000 : Int) < tk)))
        (cnd ((!((decide ((stE (bOk bi bf bv bt bm be bd) (gB bi bd po sp re pr fl l) (aOk t tq ld tk)) = (2 : Int))) == Bool.true)) || (decide ((((List.length (kL (stE (bOk bi bf bv bt bm be bd) (gB bi bd po sp re pr fl l) (aOk t tq ld tk)) l)) : Nat) : Int) ≤ (4611686018427387904 : Int))))
          (cnd ((!((decide ((stE (bOk bi bf bv bt bm be bd) (gB bi bd po sp re pr fl l) (aOk t tq ld tk)) = (2 : Int))) == Bool.true)) || (decide ((((List.length ([] : List Int)) : Nat) : Int) ≤ (4611686018427387904 : Int))))
            ((((decide ((stE (bOk bi bf bv bt bm be bd) (gB bi bd po sp re pr fl l) (aOk t tq ld tk)) = (2 : Int))) && ((((((decide ((kE (stE (bOk bi bf bv bt bm be bd) (gB bi bd po sp re pr fl l) (aOk t tq ld tk)) (xPo po sp tk)) = (0 : Int))) && (decide ((kE (stE (bOk bi bf bv bt bm be bd) (gB bi bd po sp re pr fl l) (aOk t tq ld tk)) (xSp bi bf sp re tq ld tk)) = (0 : Int)))) && (decide ((kE (stE (bOk bi bf bv bt bm be bd) (gB bi bd po sp re pr fl l) (aOk t tq ld tk)) (xRe bi bf sp re tq ld tk)) = (0 : Int)))) && (decide ((kE (stE (bOk bi bf bv bt bm be bd) (gB bi bd po sp re pr fl l) (aOk t tq ld tk)) (xPr bv bt sp pr t tk)) = (0 : Int)))) && (decide ((kE (stE (bOk bi bf bv bt bm be bd) (gB bi bd po sp re pr fl l) (aOk t tq ld tk)) fl) = (0 : Int)))) && (decide ((kL (stE (bOk bi bf bv bt bm be bd) (gB bi bd po sp re pr fl l) (aOk t tq ld tk)) l) = ([] : List Int))))) && ((decide ((kE (stE (bOk bi bf bv bt bm be bd) (gB bi bd po sp re pr fl l) (aOk t tq ld tk)) tk) = (0 : Int))) && ((decide ((kE (stE (bOk bi bf bv bt bm be bd) (gB bi bd po sp re pr fl l) (aOk t tq ld tk)) sp) = (0 : Int))) && Bool.true))) = Bool.true)
            False)
          False)
        ((cnd ((!((decide ((stE (bOk bi bf bv bt bm be bd) (gB bi bd po sp re pr fl l) (aOk t tq ld tk)) = (0 : Int))) == Bool.true)) || (bOk bi bf bv bt bm be bd))
          (cnd ((!((decide ((stE (bOk bi bf bv bt bm be bd) (gB bi bd po sp re pr fl l) (aOk t tq ld tk)) = (0 : Int))) == Bool.true)) || (gB bi bd po sp re pr fl l))
            (cnd ((!((decide ((stE (bOk bi bf bv bt bm be bd) (gB bi bd po sp re pr fl l) (aOk t tq ld tk)) = (0 : Int))) == Bool.true)) || (aOk t tq ld tk))
              (cnd ((!((decide ((stE (bOk bi bf bv bt bm be bd) (gB bi bd po sp re pr fl l) (aOk t tq ld tk)) = (0 : Int))) == Bool.true)) || (decide ((((List.length (kL (stE (bOk bi bf bv bt bm be bd) (gB bi bd po sp re pr fl l) (aOk t tq ld tk)) l)) : Nat) : Int) ≤ (4611686018427387904 : Int))))
                (cnd ((!((decide ((stE (bOk bi bf bv bt bm be bd) (gB bi bd po sp re pr fl l) (aOk t tq ld tk)) = (0 : Int))) == Bool.true)) || (decide ((((List.length (cond ((decide ((stE (bOk bi bf bv bt bm be bd) (gB bi bd po sp re pr fl l) (aOk t tq ld tk)) = (0 : Int))) == Bool.true) l ([] : List Int))) : Nat) : Int) ≤ (4611686018427387904 : Int))))
                  ((((decide ((stE (bOk bi bf bv bt bm be bd) (gB bi bd po sp re pr fl l) (aOk t tq ld tk)) = (0 : Int))) && ((((((decide ((kE (stE (bOk bi bf bv bt bm be bd) (gB bi bd po sp re pr fl l) (aOk t tq ld tk)) (xPo po sp tk)) = (xPo po sp tk))) && (decide ((kE (stE (bOk bi bf bv bt bm be bd) (gB bi bd po sp re pr fl l) (aOk t tq ld tk)) (xSp bi bf sp re tq ld tk)) = (xSp bi bf sp re tq ld tk)))) && (decide ((kE (stE (bOk bi bf bv bt bm be bd) (gB bi bd po sp re pr fl l) (aOk t tq ld tk)) (xRe bi bf sp re tq ld tk)) = (xRe bi bf sp re tq ld tk)))) && (decide ((kE (stE (bOk bi bf bv bt bm be bd) (gB bi bd po sp re pr fl l) (aOk t tq ld tk)) (xPr bv bt sp pr t tk)) = (xPr bv bt sp pr t tk)))) && (decide ((kE (stE (bOk bi bf bv bt bm be bd) (gB bi bd po sp re pr fl l) (aOk t tq ld tk)) fl) = fl))) && (decide ((kL (stE (bOk bi bf bv bt bm be bd) (gB bi bd po sp re pr fl l) (aOk t tq ld tk)) l) = (cond ((decide ((stE (bOk bi bf bv bt bm be bd) (gB bi bd po sp re pr fl l) (aOk t tq ld tk)) = (0 : Int))) == Bool.true) l ([] : List Int)))))) && ((decide ((kE (stE (bOk bi bf bv bt bm be bd) (gB bi bd po sp re pr fl l) (aOk t tq ld tk)) tk) = tk)) && ((decide ((kE (stE (bOk bi bf bv bt bm be bd) (gB bi bd po sp re pr fl l) (aOk t tq ld tk)) sp) = sp)) && Bool.true))) = Bool.true)
                  False)
                False)
              False)
            False)
          False) ∧ (cnd ((!((decide ((stE (bOk bi bf bv bt bm be bd) (gB bi bd po sp re pr fl l) (aOk t tq ld tk)) = (0 : Int))) == Bool.true)) || (bOk bi bf bv bt bm be bd))
          (cnd ((!((decide ((stE (bOk bi bf bv bt bm be bd) (gB bi bd po sp re pr fl l) (aOk t tq ld tk)) = (0 : Int))) == Bool.true)) || (gB bi bd po sp re pr fl l))
            (cnd ((!((decide ((stE (bOk bi bf bv bt bm be bd) (gB bi bd po sp re pr fl l) (aOk t tq ld tk)) = (0 : Int))) == Bool.true)) || (aOk t tq ld tk))
              (cnd ((!((decide ((stE (bOk bi bf bv bt bm be bd) (gB bi bd po sp re pr fl l) (aOk t tq ld tk)) = (0 : Int))) == Bool.true)) || (decide ((((List.length (kL (stE (bOk bi bf bv bt bm be bd) (gB bi bd po sp re pr fl l) (aOk t tq ld tk)) l)) : Nat) : Int) ≤ (4611686018427387904 : Int))))
                (cnd ((!((decide ((stE (bOk bi bf bv bt bm be bd) (gB bi bd po sp re pr fl l) (aOk t tq ld tk)) = (0 : Int))) == Bool.true)) || (decide ((((List.length (cond ((decide ((stE (bOk bi bf bv bt bm be bd) (gB bi bd po sp re pr fl l) (aOk t tq ld tk)) = (0 : Int))) == Bool.true) l ([] : List Int))) : Nat) : Int) ≤ (4611686018427387904 : Int))))
                  ((((decide ((stE (bOk bi bf bv bt bm be bd) (gB bi bd po sp re pr fl l) (aOk t tq ld tk)) = (0 : Int))) && ((((((decide ((kE (stE (bOk bi bf bv bt bm be bd) (gB bi bd po sp re pr fl l) (aOk t tq ld tk)) (xPo po sp tk)) = (xPo po sp tk))) && (decide ((kE (stE (bOk bi bf bv bt bm be bd) (gB bi bd po sp re pr fl l) (aOk t tq ld tk)) (xSp bi bf sp re tq ld tk)) = (xSp bi bf sp re tq ld tk)))) && (decide ((kE (stE (bOk bi bf bv bt bm be bd) (gB bi bd po sp re pr fl l) (aOk t tq ld tk)) (xRe bi bf sp re tq ld tk)) = (xRe bi bf sp re tq ld tk)))) && (decide ((kE (stE (bOk bi bf bv bt bm be bd) (gB bi bd po sp re pr fl l) (aOk t tq ld tk)) (xPr bv bt sp pr t tk)) = (xPr bv bt sp pr t tk)))) && (decide ((kE (stE (bOk bi bf bv bt bm be bd) (gB bi bd po sp re pr fl l) (aOk t tq ld tk)) fl) = fl))) && (decide ((kL (stE (bOk bi bf bv bt bm be bd) (gB bi bd po sp re pr fl l) (aOk t tq ld tk)) l) = (cond ((decide ((stE (bOk bi bf bv bt bm be bd) (gB bi bd po sp re pr fl l) (aOk t tq ld tk)) = (0 : Int))) == Bool.true) l ([] : List Int)))))) && ((decide ((kE (stE (bOk bi bf bv bt bm be bd) (gB bi bd po sp re pr fl l) (aOk t tq ld tk)) tk) = tk)) && ((decide ((kE (stE (bOk bi bf bv bt bm be bd) (gB bi bd po sp re pr fl l) (aOk t tq ld tk)) sp) = sp)) && Bool.true))) = Bool.true)
                  False)
                False)
              False)
            False)
          False))))
    False))) = EXD Try.prog (conOf [awake_e, pstep_e, rvalid_e, rgood_e, rstep_e, rsame_e]) Try.f3 [.agg [.int .i64 bi, .int .i64 bf, .int .i64 bv, .int .i64 bt, .int .i64 bm, .int .i64 be, .int .i64 bd], .agg [.int .i64 po, .int .i64 sp, .int .i64 re, .int .i64 pr, .int .i64 fl, .row 0], .cel (.int .i64 t), .cel (.int .i64 tq), .cel (.int .i64 ld), .cel (.int .i64 tk)] [.ints .i64 l] [] (steps_res bi bf bv bt bm be bd po sp re pr fl l t tq ld tk) := by kernel_rfl
theorem steps_holds (bi : Int) (bf : Int) (bv : Int) (bt : Int) (bm : Int) (be : Int) (bd : Int) (po : Int) (sp : Int) (re : Int) (pr : Int) (fl : Int) (l : List Int) (t : Int) (tq : Int) (ld : Int) (tk : Int) (p0 : (wfI .i64 bi) = true) (p1 : (wfI .i64 bf) = true) (p2 : (wfI .i64 bv) = true) (p3 : (wfI .i64 bt) = true) (p4 : (wfI .i64 bm) = true) (p5 : (wfI .i64 be) = true) (p6 : (wfI .i64 bd) = true) (p7 : (wfI .i64 po) = true) (p8 : (wfI .i64 sp) = true) (p9 : (wfI .i64 re) = true) (p10 : (wfI .i64 pr) = true) (p11 : (wfI .i64 fl) = true) (p12 : (wfL .i64 l) = true) (p13 : (wfI .i64 t) = true) (p14 : (wfI .i64 tq) = true) (p15 : (wfI .i64 ld) = true) (p16 : (wfI .i64 tk) = true) : (cnd (decide ((40 : Int) < (((List.length l) : Nat) : Int)))
  (Bool.true = Bool.true)
  (cnd ((!((!(bOk bi bf bv bt bm be bd)) == Bool.false)) || (bOk bi bf bv bt bm be bd))
    (cnd ((!(bOk bi bf bv bt bm be bd)) || (!(gB bi bd po sp re pr fl l)))
      (cnd ((!((decide ((stE (bOk bi bf bv bt bm be bd) (gB bi bd po sp re pr fl l) (aOk t tq ld tk)) = (1 : Int))) == Bool.true)) || (decide ((((List.length (kL (stE (bOk bi bf bv bt bm be bd) (gB bi bd po sp re pr fl l) (aOk t tq ld tk)) l)) : Nat) : Int) ≤ (4611686018427387904 : Int))))
        (cnd ((!((decide ((stE (bOk bi bf bv bt bm be bd) (gB bi bd po sp re pr fl l) (aOk t tq ld tk)) = (1 : Int))) == Bool.true)) || (decide ((((List.length ([] : List Int)) : Nat) : Int) ≤ (4611686018427387904 : Int))))
          ((((decide ((stE (bOk bi bf bv bt bm be bd) (gB bi bd po sp re pr fl l) (aOk t tq ld tk)) = (1 : Int))) && ((((((decide ((kE (stE (bOk bi bf bv bt bm be bd) (gB bi bd po sp re pr fl l) (aOk t tq ld tk)) (xPo po sp tk)) = (0 : Int))) && (decide ((kE (stE (bOk bi bf bv bt bm be bd) (gB bi bd po sp re pr fl l) (aOk t tq ld tk)) (xSp bi bf sp re tq ld tk)) = (0 : Int)))) && (decide ((kE (stE (bOk bi bf bv bt bm be bd) (gB bi bd po sp re pr fl l) (aOk t tq ld tk)) (xRe bi bf sp re tq ld tk)) = (0 : Int)))) && (decide ((kE (stE (bOk bi bf bv bt bm be bd) (gB bi bd po sp re pr fl l) (aOk t tq ld tk)) (xPr bv bt sp pr t tk)) = (0 : Int)))) && (decide ((kE (stE (bOk bi bf bv bt bm be bd) (gB bi bd po sp re pr fl l) (aOk t tq ld tk)) fl) = (0 : Int)))) && (decide ((kL (stE (bOk bi bf bv bt bm be bd) (gB bi bd po sp re pr fl l) (aOk t tq ld tk)) l) = ([] : List Int))))) && ((decide ((kE (stE (bOk bi bf bv bt bm be bd) (gB bi bd po sp re pr fl l) (aOk t tq ld tk)) tk) = (0 : Int))) && ((decide ((kE (stE (bOk bi bf bv bt bm be bd) (gB bi bd po sp re pr fl l) (aOk t tq ld tk)) sp) = (0 : Int))) && Bool.true))) = Bool.true)
          False)
        False)
      (cnd ((((((((decide (t < (0 : Int))) || (decide ((1000 : Int) < t))) || (decide (tq < (-(5000 : Int))))) || (decide ((10000 : Int) < tq))) || (decide (ld < (-(10000 : Int))))) || (decide ((10000 : Int) < ld))) || (decide (tk < (1 : Int)))) || (decide ((10000 : Int) < tk)))
        (cnd ((!((decide ((stE (bOk bi bf bv bt bm be bd) (gB bi bd po sp re pr fl l) (aOk t tq ld tk)) = (2 : Int))) == Bool.true)) || (decide ((((List.length (kL (stE (bOk bi bf bv bt bm be bd) (gB bi bd po sp re pr fl l) (aOk t tq ld tk)) l)) : Nat) : Int) ≤ (4611686018427387904 : Int))))
          (cnd ((!((decide ((stE (bOk bi bf bv bt bm be bd) (gB bi bd po sp re pr fl l) (aOk t tq ld tk)) = (2 : Int))) == Bool.true)) || (decide ((((List.length ([] : List Int)) : Nat) : Int) ≤ (4611686018427387904 : Int))))
            ((((decide ((stE (bOk bi bf bv bt bm be bd) (gB bi bd po sp re pr fl l) (aOk t tq ld tk)) = (2 : Int))) && ((((((decide ((kE (stE (bOk bi bf bv bt bm be bd) (gB bi bd po sp re pr fl l) (aOk t tq ld tk)) (xPo po sp tk)) = (0 : Int))) && (decide ((kE (stE (bOk bi bf bv bt bm be bd) (gB bi bd po sp re pr fl l) (aOk t tq ld tk)) (xSp bi bf sp re tq ld tk)) = (0 : Int)))) && (decide ((kE (stE (bOk bi bf bv bt bm be bd) (gB bi bd po sp re pr fl l) (aOk t tq ld tk)) (xRe bi bf sp re tq ld tk)) = (0 : Int)))) && (decide ((kE (stE (bOk bi bf bv bt bm be bd) (gB bi bd po sp re pr fl l) (aOk t tq ld tk)) (xPr bv bt sp pr t tk)) = (0 : Int)))) && (decide ((kE (stE (bOk bi bf bv bt bm be bd) (gB bi bd po sp re pr fl l) (aOk t tq ld tk)) fl) = (0 : Int)))) && (decide ((kL (stE (bOk bi bf bv bt bm be bd) (gB bi bd po sp re pr fl l) (aOk t tq ld tk)) l) = ([] : List Int))))) && ((decide ((kE (stE (bOk bi bf bv bt bm be bd) (gB bi bd po sp re pr fl l) (aOk t tq ld tk)) tk) = (0 : Int))) && ((decide ((kE (stE (bOk bi bf bv bt bm be bd) (gB bi bd po sp re pr fl l) (aOk t tq ld tk)) sp) = (0 : Int))) && Bool.true))) = Bool.true)
            False)
          False)
        ((cnd ((!((decide ((stE (bOk bi bf bv bt bm be bd) (gB bi bd po sp re pr fl l) (aOk t tq ld tk)) = (0 : Int))) == Bool.true)) || (bOk bi bf bv bt bm be bd))
          (cnd ((!((decide ((stE (bOk bi bf bv bt bm be bd) (gB bi bd po sp re pr fl l) (aOk t tq ld tk)) = (0 : Int))) == Bool.true)) || (gB bi bd po sp re pr fl l))
            (cnd ((!((decide ((stE (bOk bi bf bv bt bm be bd) (gB bi bd po sp re pr fl l) (aOk t tq ld tk)) = (0 : Int))) == Bool.true)) || (aOk t tq ld tk))
              (cnd ((!((decide ((stE (bOk bi bf bv bt bm be bd) (gB bi bd po sp re pr fl l) (aOk t tq ld tk)) = (0 : Int))) == Bool.true)) || (decide ((((List.length (kL (stE (bOk bi bf bv bt bm be bd) (gB bi bd po sp re pr fl l) (aOk t tq ld tk)) l)) : Nat) : Int) ≤ (4611686018427387904 : Int))))
                (cnd ((!((decide ((stE (bOk bi bf bv bt bm be bd) (gB bi bd po sp re pr fl l) (aOk t tq ld tk)) = (0 : Int))) == Bool.true)) || (decide ((((List.length (cond ((decide ((stE (bOk bi bf bv bt bm be bd) (gB bi bd po sp re pr fl l) (aOk t tq ld tk)) = (0 : Int))) == Bool.true) l ([] : List Int))) : Nat) : Int) ≤ (4611686018427387904 : Int))))
                  ((((decide ((stE (bOk bi bf bv bt bm be bd) (gB bi bd po sp re pr fl l) (aOk t tq ld tk)) = (0 : Int))) && ((((((decide ((kE (stE (bOk bi bf bv bt bm be bd) (gB bi bd po sp re pr fl l) (aOk t tq ld tk)) (xPo po sp tk)) = (xPo po sp tk))) && (decide ((kE (stE (bOk bi bf bv bt bm be bd) (gB bi bd po sp re pr fl l) (aOk t tq ld tk)) (xSp bi bf sp re tq ld tk)) = (xSp bi bf sp re tq ld tk)))) && (decide ((kE (stE (bOk bi bf bv bt bm be bd) (gB bi bd po sp re pr fl l) (aOk t tq ld tk)) (xRe bi bf sp re tq ld tk)) = (xRe bi bf sp re tq ld tk)))) && (decide ((kE (stE (bOk bi bf bv bt bm be bd) (gB bi bd po sp re pr fl l) (aOk t tq ld tk)) (xPr bv bt sp pr t tk)) = (xPr bv bt sp pr t tk)))) && (decide ((kE (stE (bOk bi bf bv bt bm be bd) (gB bi bd po sp re pr fl l) (aOk t tq ld tk)) fl) = fl))) && (decide ((kL (stE (bOk bi bf bv bt bm be bd) (gB bi bd po sp re pr fl l) (aOk t tq ld tk)) l) = (cond ((decide ((stE (bOk bi bf bv bt bm be bd) (gB bi bd po sp re pr fl l) (aOk t tq ld tk)) = (0 : Int))) == Bool.true) l ([] : List Int)))))) && ((decide ((kE (stE (bOk bi bf bv bt bm be bd) (gB bi bd po sp re pr fl l) (aOk t tq ld tk)) tk) = tk)) && ((decide ((kE (stE (bOk bi bf bv bt bm be bd) (gB bi bd po sp re pr fl l) (aOk t tq ld tk)) sp) = sp)) && Bool.true))) = Bool.true)
                  False)
                False)
              False)
            False)
          False) ∧ (cnd ((!((decide ((stE (bOk bi bf bv bt bm be bd) (gB bi bd po sp re pr fl l) (aOk t tq ld tk)) = (0 : Int))) == Bool.true)) || (bOk bi bf bv bt bm be bd))
          (cnd ((!((decide ((stE (bOk bi bf bv bt bm be bd) (gB bi bd po sp re pr fl l) (aOk t tq ld tk)) = (0 : Int))) == Bool.true)) || (gB bi bd po sp re pr fl l))
            (cnd ((!((decide ((stE (bOk bi bf bv bt bm be bd) (gB bi bd po sp re pr fl l) (aOk t tq ld tk)) = (0 : Int))) == Bool.true)) || (aOk t tq ld tk))
              (cnd ((!((decide ((stE (bOk bi bf bv bt bm be bd) (gB bi bd po sp re pr fl l) (aOk t tq ld tk)) = (0 : Int))) == Bool.true)) || (decide ((((List.length (kL (stE (bOk bi bf bv bt bm be bd) (gB bi bd po sp re pr fl l) (aOk t tq ld tk)) l)) : Nat) : Int) ≤ (4611686018427387904 : Int))))
                (cnd ((!((decide ((stE (bOk bi bf bv bt bm be bd) (gB bi bd po sp re pr fl l) (aOk t tq ld tk)) = (0 : Int))) == Bool.true)) || (decide ((((List.length (cond ((decide ((stE (bOk bi bf bv bt bm be bd) (gB bi bd po sp re pr fl l) (aOk t tq ld tk)) = (0 : Int))) == Bool.true) l ([] : List Int))) : Nat) : Int) ≤ (4611686018427387904 : Int))))
                  ((((decide ((stE (bOk bi bf bv bt bm be bd) (gB bi bd po sp re pr fl l) (aOk t tq ld tk)) = (0 : Int))) && ((((((decide ((kE (stE (bOk bi bf bv bt bm be bd) (gB bi bd po sp re pr fl l) (aOk t tq ld tk)) (xPo po sp tk)) = (xPo po sp tk))) && (decide ((kE (stE (bOk bi bf bv bt bm be bd) (gB bi bd po sp re pr fl l) (aOk t tq ld tk)) (xSp bi bf sp re tq ld tk)) = (xSp bi bf sp re tq ld tk)))) && (decide ((kE (stE (bOk bi bf bv bt bm be bd) (gB bi bd po sp re pr fl l) (aOk t tq ld tk)) (xRe bi bf sp re tq ld tk)) = (xRe bi bf sp re tq ld tk)))) && (decide ((kE (stE (bOk bi bf bv bt bm be bd) (gB bi bd po sp re pr fl l) (aOk t tq ld tk)) (xPr bv bt sp pr t tk)) = (xPr bv bt sp pr t tk)))) && (decide ((kE (stE (bOk bi bf bv bt bm be bd) (gB bi bd po sp re pr fl l) (aOk t tq ld tk)) fl) = fl))) && (decide ((kL (stE (bOk bi bf bv bt bm be bd) (gB bi bd po sp re pr fl l) (aOk t tq ld tk)) l) = (cond ((decide ((stE (bOk bi bf bv bt bm be bd) (gB bi bd po sp re pr fl l) (aOk t tq ld tk)) = (0 : Int))) == Bool.true) l ([] : List Int)))))) && ((decide ((kE (stE (bOk bi bf bv bt bm be bd) (gB bi bd po sp re pr fl l) (aOk t tq ld tk)) tk) = tk)) && ((decide ((kE (stE (bOk bi bf bv bt bm be bd) (gB bi bd po sp re pr fl l) (aOk t tq ld tk)) sp) = sp)) && Bool.true))) = Bool.true)
                  False)
                False)
              False)
            False)
          False))))
    False)) := by
  by_cases hl : (40 : Int) < l.length
  · simp [hl, cnd]
  · have j0 : decide ((40 : Int) < l.length) = false := by simpa using hl
    have j1 : decide (((([] : List Int).length : Nat) : Int) ≤ 4611686018427387904) = true := rfl
    have j2 : decide (((l.length : Nat) : Int) ≤ 4611686018427387904) = true := by rw [decide_eq_true_eq]; omega
    simp only [j0, cnd]
    cases hb : bOk bi bf bv bt bm be bd with
    | false => simp [stE, kE, kL, j1]
    | true =>
      cases hg : gB bi bd po sp re pr fl l with
      | false => simp [stE, kE, kL, j1]
      | true =>
        have ea : (((((((decide (t < 0) || decide (1000 < t)) || decide (tq < -5000)) || decide (10000 < tq)) || decide (ld < -10000)) || decide (10000 < ld)) || decide (tk < 1)) || decide (10000 < tk)) = !aOk t tq ld tk := by
          cases h : aOk t tq ld tk with
          | true =>
            have := aOk_iff.1 h
            simp; omega
          | false =>
            have : ¬ aOk t tq ld tk = true := by rw [h]; decide
            rw [aOk_iff] at this
            simp; omega
        rw [ea]
        cases ha : aOk t tq ld tk with
        | false => simp [stE, kE, kL, j1]
        | true => simp [stE, kE, kL, j2]
set_option maxHeartbeats 2000000 in
theorem steps_ok : SoundEnt Try.prog steps_e := by
  refine ent_of_ex (Γ := (conOf [awake_e, pstep_e, rvalid_e, rgood_e, rstep_e, rsame_e])) (conOf_sound (scons awake_ok (scons pstep_ok (scons rvalid_ok (scons rgood_ok (scons rstep_ok (scons rsame_ok snil))))))) (by kernel_rfl) Try.func3 (by kernel_rfl) (by kernel_rfl) (fun args rows caps res h ho => ?_)
  change steps_go args rows caps = some res at h
  unfold steps_go at h
  split at h
  · simp only [Option.some.injEq] at h
    subst h
    rename_i q0_ q1_ q2_ q3_ q4_ q5_ q6_ q7_ q8_ q9_ q10_ q11_ q13_ q14_ q15_ q16_ q12_
    obtain ⟨p0, p1, p2, p3, p4, p5, p6, p7, p8, p9, p10, p11, p12, p13, p14, p15, p16, _⟩ := ho
    exact EX.of (steps_tree q0_ q1_ q2_ q3_ q4_ q5_ q6_ q7_ q8_ q9_ q10_ q11_ q12_ q13_ q14_ q15_ q16_) (steps_holds q0_ q1_ q2_ q3_ q4_ q5_ q6_ q7_ q8_ q9_ q10_ q11_ q12_ q13_ q14_ q15_ q16_ p0 p1 p2 p3 p4 p5 p6 p7 p8 p9 p10 p11 p12 p13 p14 p15 p16)
  · cases h
end Go.Proofs.Ytnioihmchajmlaa

