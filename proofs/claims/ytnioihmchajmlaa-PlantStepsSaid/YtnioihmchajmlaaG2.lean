/- The engine's plant: injections, the reference, and the chapter's examples. -/
import Derived.Test.YtnioihmchajmlaaG1
namespace Go.Proofs.Ytnioihmchajmlaa
set_option linter.unusedVariables false
set_option linter.unusedSimpArgs false
open Go.RowKit

theorem jB {bm be fl fu : Int} (h1 : 0 ≤ bm ∧ bm ≤ 1023) (h2 : 1 ≤ be ∧ be ≤ 1024) (h3 : 0 ≤ fl ∧ fl ≤ 2147483648) (h4 : 0 ≤ fu ∧ fu ≤ 1048576) :
    (0 ≤ fu * bm ∧ fu * bm ≤ 1072693248) ∧ (0 ≤ jSt bm fu ∧ jSt bm fu ≤ fu ∧ jSt bm fu ≤ 1047552) ∧ (0 ≤ fl * be ∧ fl * be ≤ 2199023255552) ∧ (0 ≤ jLe be fl ∧ jLe be fl ≤ fl ∧ fl / 1024 ≤ jLe be fl) := by
  have a1 := mulN (a := fu) (b := bm) (A := 1048576) (B := 1023) (by omega) (by omega) (by omega) (by omega)
  have a2 := mulN (a := fl) (b := be) (A := 2147483648) (B := 1024) (by omega) (by omega) (by omega) (by omega)
  have a3 : fu * bm ≤ fu * 1023 := Int.mul_le_mul_of_nonneg_left (by omega) (by omega)
  have a4 : fl * be ≤ fl * 1024 := Int.mul_le_mul_of_nonneg_left (by omega) (by omega)
  have a5 : fl * 1 ≤ fl * be := Int.mul_le_mul_of_nonneg_left (by omega) (by omega)
  unfold jSt jLe
  omega
theorem mx_bd {bm be fl fu ai : Int} : 500 ≤ jMx bm be fl fu ai ∧ jMx bm be fl fu ai ≤ 2000 := by
  unfold jMx
  split <;> omega
def pinject_res (bi : Int) (bf : Int) (bv : Int) (bt : Int) (bm : Int) (be : Int) (bd : Int) (po : Int) (sp : Int) (re : Int) (pr : Int) (fl : Int) (l : List Int) (fu : Int) (ai : Int) : CRes := ⟨[], .tup [.agg [.int .i64 (kE (stE (bOk bi bf bv bt bm be bd) (gB bi bd po sp re pr fl l) (fOk fu ai)) po), .int .i64 (kE (stE (bOk bi bf bv bt bm be bd) (gB bi bd po sp re pr fl l) (fOk fu ai)) sp), .int .i64 (kE (stE (bOk bi bf bv bt bm be bd) (gB bi bd po sp re pr fl l) (fOk fu ai)) re), .int .i64 (kE (stE (bOk bi bf bv bt bm be bd) (gB bi bd po sp re pr fl l) (fOk fu ai)) pr), .int .i64 (kE (stE (bOk bi bf bv bt bm be bd) (gB bi bd po sp re pr fl l) (fOk fu ai)) (jFl bm be fl fu)), .row 1], .cel (.int .i64 (kE (stE (bOk bi bf bv bt bm be bd) (gB bi bd po sp re pr fl l) (fOk fu ai)) (jC bm be fl fu))), .cel (.int .i64 (stE (bOk bi bf bv bt bm be bd) (gB bi bd po sp re pr fl l) (fOk fu ai)))], [.ints .i64 (kL (stE (bOk bi bf bv bt bm be bd) (gB bi bd po sp re pr fl l) (fOk fu ai)) (jL bd l (jMx bm be fl fu ai)))]⟩
def pinject_go : List TV → List RowA → List (List CV) → Option CRes := fun args rows caps =>
  match args, rows, caps with
  | [.agg [.int .i64 bi, .int .i64 bf, .int .i64 bv, .int .i64 bt, .int .i64 bm, .int .i64 be, .int .i64 bd], .agg [.int .i64 po, .int .i64 sp, .int .i64 re, .int .i64 pr, .int .i64 fl, .row 0], .cel (.int .i64 fu), .cel (.int .i64 ai)], [.ints .i64 l], [] => some (pinject_res bi bf bv bt bm be bd po sp re pr fl l fu ai)
  | _, _, _ => none
def pinject_e : Ent := ⟨18, [.ints .i64 []], pinject_go⟩
set_option maxRecDepth 100000 in
theorem pinject_tree (bi : Int) (bf : Int) (bv : Int) (bt : Int) (bm : Int) (be : Int) (bd : Int) (po : Int) (sp : Int) (re : Int) (pr : Int) (fl : Int) (l : List Int) (fu : Int) (ai : Int) : ((cnd (!((bOk bi bf bv bt bm be bd) && (gB bi bd po sp re pr fl l)))
  (((((0 : Int) = (kE (stE (bOk bi bf bv bt bm be bd) (gB bi bd po sp re pr fl l) (fOk fu ai)) po)) ∧ (((0 : Int) = (kE (stE (bOk bi bf bv bt bm be bd) (gB bi bd po sp re pr fl l) (fOk fu ai)) sp)) ∧ (((0 : Int) = (kE (stE (bOk bi bf bv bt bm be bd) (gB bi bd po sp re pr fl l) (fOk fu ai)) re)) ∧ (((0 : Int) = (kE (stE (bOk bi bf bv bt bm be bd) (gB bi bd po sp re pr fl l) (fOk fu ai)) pr)) ∧ (((0 : Int) = (kE (stE (bOk bi bf bv bt bm be bd) (gB bi bd po sp re pr fl l) (fOk fu ai)) (jFl bm be fl fu))) ∧ True))))) ∧ (((0 : Int) = (kE (stE (bOk bi bf bv bt bm be bd) (gB bi bd po sp re pr fl l) (fOk fu ai)) (jC bm be fl fu))) ∧ ((1 : Int) = (stE (bOk bi bf bv bt bm be bd) (gB bi bd po sp re pr fl l) (fOk fu ai))))) ∧ (((kL (stE (bOk bi bf bv bt bm be bd) (gB bi bd po sp re pr fl l) (fOk fu ai)) (jL bd l (jMx bm be fl fu ai))) = ([] : List Int)) ∧ True))
  (cnd ((!(btw fu (0 : Int) (1048576 : Int))) || (!(btw ai (0 : Int) (1048576 : Int))))
    (((((0 : Int) = (kE (stE (bOk bi bf bv bt bm be bd) (gB bi bd po sp re pr fl l) (fOk fu ai)) po)) ∧ (((0 : Int) = (kE (stE (bOk bi bf bv bt bm be bd) (gB bi bd po sp re pr fl l) (fOk fu ai)) sp)) ∧ (((0 : Int) = (kE (stE (bOk bi bf bv bt bm be bd) (gB bi bd po sp re pr fl l) (fOk fu ai)) re)) ∧ (((0 : Int) = (kE (stE (bOk bi bf bv bt bm be bd) (gB bi bd po sp re pr fl l) (fOk fu ai)) pr)) ∧ (((0 : Int) = (kE (stE (bOk bi bf bv bt bm be bd) (gB bi bd po sp re pr fl l) (fOk fu ai)) (jFl bm be fl fu))) ∧ True))))) ∧ (((0 : Int) = (kE (stE (bOk bi bf bv bt bm be bd) (gB bi bd po sp re pr fl l) (fOk fu ai)) (jC bm be fl fu))) ∧ ((2 : Int) = (stE (bOk bi bf bv bt bm be bd) (gB bi bd po sp re pr fl l) (fOk fu ai))))) ∧ (((kL (stE (bOk bi bf bv bt bm be bd) (gB bi bd po sp re pr fl l) (fOk fu ai)) (jL bd l (jMx bm be fl fu ai))) = ([] : List Int)) ∧ True))
    (cnd (decide ((0 : Int) < (Go.IntKind.wrap Go.IntKind.i64 ((Go.IntKind.wrap Go.IntKind.i64 (fu - (Go.IntKind.wrap Go.IntKind.i64 (Int.tdiv (Go.IntKind.wrap Go.IntKind.i64 (fu * bm)) (1024 : Int))))) + (Go.IntKind.wrap Go.IntKind.i64 (Int.tdiv (Go.IntKind.wrap Go.IntKind.i64 (fl * be)) (1024 : Int)))))))
      (cnd (decide ((Go.IntKind.wrap Go.IntKind.i64 ((147 : Int) * (Go.IntKind.wrap Go.IntKind.i64 ((Go.IntKind.wrap Go.IntKind.i64 (fu - (Go.IntKind.wrap Go.IntKind.i64 (Int.tdiv (Go.IntKind.wrap Go.IntKind.i64 (fu * bm)) (1024 : Int))))) + (Go.IntKind.wrap Go.IntKind.i64 (Int.tdiv (Go.IntKind.wrap Go.IntKind.i64 (fl * be)) (1024 : Int))))))) ≠ (0 : Int)))
        (cnd (decide ((List.length (([] : List Int) ++ l)) ≤ 4294967296))
          (cnd (decide ((List.length ((([] : List Int) ++ l) ++ [(Min.min (Max.max (Go.IntKind.wrap Go.IntKind.i64 (Int.tdiv (Go.IntKind.wrap Go.IntKind.i64 ((10000 : Int) * ai)) (Go.IntKind.wrap Go.IntKind.i64 ((147 : Int) * (Go.IntKind.wrap Go.IntKind.i64 ((Go.IntKind.wrap Go.IntKind.i64 (fu - (Go.IntKind.wrap Go.IntKind.i64 (Int.tdiv (Go.IntKind.wrap Go.IntKind.i64 (fu * bm)) (1024 : Int))))) + (Go.IntKind.wrap Go.IntKind.i64 (Int.tdiv (Go.IntKind.wrap Go.IntKind.i64 (fl * be)) (1024 : Int))))))))) (500 : Int)) (2000 : Int))])) ≤ 4294967296))
            (cnd (decide ((Go.IntKind.wrap Go.IntKind.i64 (bd + (1 : Int))) < (((List.length ((([] : List Int) ++ l) ++ [(Min.min (Max.max (Go.IntKind.wrap Go.IntKind.i64 (Int.tdiv (Go.IntKind.wrap Go.IntKind.i64 ((10000 : Int) * ai)) (Go.IntKind.wrap Go.IntKind.i64 ((147 : Int) * (Go.IntKind.wrap Go.IntKind.i64 ((Go.IntKind.wrap Go.IntKind.i64 (fu - (Go.IntKind.wrap Go.IntKind.i64 (Int.tdiv (Go.IntKind.wrap Go.IntKind.i64 (fu * bm)) (1024 : Int))))) + (Go.IntKind.wrap Go.IntKind.i64 (Int.tdiv (Go.IntKind.wrap Go.IntKind.i64 (fl * be)) (1024 : Int))))))))) (500 : Int)) (2000 : Int))])) : Nat) : Int)))
              (cnd (decide ((1 : Int) ≤ (((List.length ((([] : List Int) ++ l) ++ [(Min.min (Max.max (Go.IntKind.wrap Go.IntKind.i64 (Int.tdiv (Go.IntKind.wrap Go.IntKind.i64 ((10000 : Int) * ai)) (Go.IntKind.wrap Go.IntKind.i64 ((147 : Int) * (Go.IntKind.wrap Go.IntKind.i64 ((Go.IntKind.wrap Go.IntKind.i64 (fu - (Go.IntKind.wrap Go.IntKind.i64 (Int.tdiv (Go.IntKind.wrap Go.IntKind.i64 (fu * bm)) (1024 : Int))))) + (Go.IntKind.wrap Go.IntKind.i64 (Int.tdiv (Go.IntKind.wrap Go.IntKind.i64 (fl * be)) (1024 : Int))))))))) (500 : Int)) (2000 : Int))])) : Nat) : Int)))
                (cnd (decide ((((List.length ((([] : List Int) ++ l) ++ [(Min.min (Max.max (Go.IntKind.wrap Go.IntKind.i64 (Int.tdiv (Go.IntKind.wrap Go.IntKind.i64 ((10000 : Int) * ai)) (Go.IntKind.wrap Go.IntKind.i64 ((147 : Int) * (Go.IntKind.wrap Go.IntKind.i64 ((Go.IntKind.wrap Go.IntKind.i64 (fu - (Go.IntKind.wrap Go.IntKind.i64 (Int.tdiv (Go.IntKind.wrap Go.IntKind.i64 (fu * bm)) (1024 : Int))))) + (Go.IntKind.wrap Go.IntKind.i64 (Int.tdiv (Go.IntKind.wrap Go.IntKind.i64 (fl * be)) (1024 : Int))))))))) (500 : Int)) (2000 : Int))])) : Nat) : Int) ≤ (((List.length ((([] : List Int) ++ l) ++ [(Min.min (Max.max (Go.IntKind.wrap Go.IntKind.i64 (Int.tdiv (Go.IntKind.wrap Go.IntKind.i64 ((10000 : Int) * ai)) (Go.IntKind.wrap Go.IntKind.i64 ((147 : Int) * (Go.IntKind.wrap Go.IntKind.i64 ((Go.IntKind.wrap Go.IntKind.i64 (fu - (Go.IntKind.wrap Go.IntKind.i64 (Int.tdiv (Go.IntKind.wrap Go.IntKind.i64 (fu * bm)) (1024 : Int))))) + (Go.IntKind.wrap Go.IntKind.i64 (Int.tdiv (Go.IntKind.wrap Go.IntKind.i64 (fl * be)) (1024 : Int))))))))) (500 : Int)) (2000 : Int))])) : Nat) : Int)))
                  ((((po = (kE (stE (bOk bi bf bv bt bm be bd) (gB bi bd po sp re pr fl l) (fOk fu ai)) po)) ∧ ((sp = (kE (stE (bOk bi bf bv bt bm be bd) (gB bi bd po sp re pr fl l) (fOk fu ai)) sp)) ∧ ((re = (kE (stE (bOk bi bf bv bt bm be bd) (gB bi bd po sp re pr fl l) (fOk fu ai)) re)) ∧ ((pr = (kE (stE (bOk bi bf bv bt bm be bd) (gB bi bd po sp re pr fl l) (fOk fu ai)) pr)) ∧ (((Go.IntKind.wrap Go.IntKind.i64 (fl + (Go.IntKind.wrap Go.IntKind.i64 ((Go.IntKind.wrap Go.IntKind.i64 (Int.tdiv (Go.IntKind.wrap Go.IntKind.i64 (fu * bm)) (1024 : Int))) - (Go.IntKind.wrap Go.IntKind.i64 (Int.tdiv (Go.IntKind.wrap Go.IntKind.i64 (fl * be)) (1024 : Int))))))) = (kE (stE (bOk bi bf bv bt bm be bd) (gB bi bd po sp re pr fl l) (fOk fu ai)) (jFl bm be fl fu))) ∧ True))))) ∧ (((Go.IntKind.wrap Go.IntKind.i64 ((Go.IntKind.wrap Go.IntKind.i64 (fu - (Go.IntKind.wrap Go.IntKind.i64 (Int.tdiv (Go.IntKind.wrap Go.IntKind.i64 (fu * bm)) (1024 : Int))))) + (Go.IntKind.wrap Go.IntKind.i64 (Int.tdiv (Go.IntKind.wrap Go.IntKind.i64 (fl * be)) (1024 : Int))))) = (kE (stE (bOk bi bf bv bt bm be bd) (gB bi bd po sp re pr fl l) (fOk fu ai)) (jC bm be fl fu))) ∧ ((0 : Int) = (stE (bOk bi bf bv bt bm be bd) (gB bi bd po sp re pr fl l) (fOk fu ai))))) ∧ (((List.drop (Int.toNat (1 : Int)) (List.take (Int.toNat (((List.length ((([] : List Int) ++ l) ++ [(Min.min (Max.max (Go.IntKind.wrap Go.IntKind.i64 (Int.tdiv (Go.IntKind.wrap Go.IntKind.i64 ((10000 : Int) * ai)) (Go.IntKind.wrap Go.IntKind.i64 ((147 : Int) * (Go.IntKind.wrap Go.IntKind.i64 ((Go.IntKind.wrap Go.IntKind.i64 (fu - (Go.IntKind.wrap Go.IntKind.i64 (Int.tdiv (Go.IntKind.wrap Go.IntKind.i64 (fu * bm)) (1024 : Int))))) + (Go.IntKind.wrap Go.IntKind.i64 (Int.tdiv (Go.IntKind.wrap Go.IntKind.i64 (fl * be)) (1024 : Int))))))))) (500 : Int)) (2000 : Int))])) : Nat) : Int)) ((([] : List Int) ++ l) ++ [(Min.min (Max.max (Go.IntKind.wrap Go.IntKind.i64 (Int.tdiv (Go.IntKind.wrap Go.IntKind.i64 ((10000 : Int) * ai)) (Go.IntKind.wrap Go.IntKind.i64 ((147 : Int) * (Go.IntKind.wrap Go.IntKind.i64 ((Go.IntKind.wrap Go.IntKind.i64 (fu - (Go.IntKind.wrap Go.IntKind.i64 (Int.tdiv (Go.IntKind.wrap Go.IntKind.i64 (fu * bm)) (1024 : Int))))) + (Go.IntKind.wrap Go.IntKind.i64 (Int.tdiv (Go.IntKind.wrap Go.IntKind.i64 (fl * be)) (1024 : Int))))))))) (500 : Int)) (2000 : Int))]))) = (kL (stE (bOk bi bf bv bt bm be bd) (gB bi bd po sp re pr fl l) (fOk fu ai)) (jL bd l (jMx bm be fl fu ai)))) ∧ True))
                  False)
                False)
              ((((po = (kE (stE (bOk bi bf bv bt bm be bd) (gB bi bd po sp re pr fl l) (fOk fu ai)) po)) ∧ ((sp = (kE (stE (bOk bi bf bv bt bm be bd) (gB bi bd po sp re pr fl l) (fOk fu ai)) sp)) ∧ ((re = (kE (stE (bOk bi bf bv bt bm be bd) (gB bi bd po sp re pr fl l) (fOk fu ai)) re)) ∧ ((pr = (kE (stE (bOk bi bf bv bt bm be bd) (gB bi bd po sp re pr fl l) (fOk fu ai)) pr)) ∧ (((Go.IntKind.wrap Go.IntKind.i64 (fl + (Go.IntKind.wrap Go.IntKind.i64 ((Go.IntKind.wrap Go.IntKind.i64 (Int.tdiv (Go.IntKind.wrap Go.IntKind.i64 (fu * bm)) (1024 : Int))) - (Go.IntKind.wrap Go.IntKind.i64 (Int.tdiv (Go.IntKind.wrap Go.IntKind.i64 (fl * be)) (1024 : Int))))))) = (kE (stE (bOk bi bf bv bt bm be bd) (gB bi bd po sp re pr fl l) (fOk fu ai)) (jFl bm be fl fu))) ∧ True))))) ∧ (((Go.IntKind.wrap Go.IntKind.i64 ((Go.IntKind.wrap Go.IntKind.i64 (fu - (Go.IntKind.wrap Go.IntKind.i64 (Int.tdiv (Go.IntKind.wrap Go.IntKind.i64 (fu * bm)) (1024 : Int))))) + (Go.IntKind.wrap Go.IntKind.i64 (Int.tdiv (Go.IntKind.wrap Go.IntKind.i64 (fl * be)) (1024 : Int))))) = (kE (stE (bOk bi bf bv bt bm be bd) (gB bi bd po sp re pr fl l) (fOk fu ai)) (jC bm be fl fu))) ∧ ((0 : Int) = (stE (bOk bi bf bv bt bm be bd) (gB bi bd po sp re pr fl l) (fOk fu ai))))) ∧ ((((([] : List Int) ++ l) ++ [(Min.min (Max.max (Go.IntKind.wrap Go.IntKind.i64 (Int.tdiv (Go.IntKind.wrap Go.IntKind.i64 ((10000 : Int) * ai)) (Go.IntKind.wrap Go.IntKind.i64 ((147 : Int) * (Go.IntKind.wrap Go.IntKind.i64 ((Go.IntKind.wrap Go.IntKind.i64 (fu - (Go.IntKind.wrap Go.IntKind.i64 (Int.tdiv (Go.IntKind.wrap Go.IntKind.i64 (fu * bm)) (1024 : Int))))) + (Go.IntKind.wrap Go.IntKind.i64 (Int.tdiv (Go.IntKind.wrap Go.IntKind.i64 (fl * be)) (1024 : Int))))))))) (500 : Int)) (2000 : Int))]) = (kL (stE (bOk bi bf bv bt bm be bd) (gB bi bd po sp re pr fl l) (fOk fu ai)) (jL bd l (jMx bm be fl fu ai)))) ∧ True)))
            False)
          False)
        False)
      (cnd (decide ((List.length (([] : List Int) ++ l)) ≤ 4294967296))
        (cnd (decide ((List.length ((([] : List Int) ++ l) ++ [(2000 : Int)])) ≤ 4294967296))
          (cnd (decide ((Go.IntKind.wrap Go.IntKind.i64 (bd + (1 : Int))) < (((List.length ((([] : List Int) ++ l) ++ [(2000 : Int)])) : Nat) : Int)))
            (cnd (decide ((1 : Int) ≤ (((List.length ((([] : List Int) ++ l) ++ [(2000 : Int)])) : Nat) : Int)))
              (cnd (decide ((((List.length ((([] : List Int) ++ l) ++ [(2000 : Int)])) : Nat) : Int) ≤ (((List.length ((([] : List Int) ++ l) ++ [(2000 : Int)])) : Nat) : Int)))
                ((((po = (kE (stE (bOk bi bf bv bt bm be bd) (gB bi bd po sp re pr fl l) (fOk fu ai)) po)) ∧ ((sp = (kE (stE (bOk bi bf bv bt bm be bd) (gB bi bd po sp re pr fl l) (fOk fu ai)) sp)) ∧ ((re = (kE (stE (bOk bi bf bv bt bm be bd) (gB bi bd po sp re pr fl l) (fOk fu ai)) re)) ∧ ((pr = (kE (stE (bOk bi bf bv bt bm be bd) (gB bi bd po sp re pr fl l) (fOk fu ai)) pr)) ∧ (((Go.IntKind.wrap Go.IntKind.i64 (fl + (Go.IntKind.wrap Go.IntKind.i64 ((Go.IntKind.wrap Go.IntKind.i64 (Int.tdiv (Go.IntKind.wrap Go.IntKind.i64 (fu * bm)) (1024 : Int))) - (Go.IntKind.wrap Go.IntKind.i64 (Int.tdiv (Go.IntKind.wrap Go.IntKind.i64 (fl * be)) (1024 : Int))))))) = (kE (stE (bOk bi bf bv bt bm be bd) (gB bi bd po sp re pr fl l) (fOk fu ai)) (jFl bm be fl fu))) ∧ True))))) ∧ (((Go.IntKind.wrap Go.IntKind.i64 ((Go.IntKind.wrap Go.IntKind.i64 (fu - (Go.IntKind.wrap Go.IntKind.i64 (Int.tdiv (Go.IntKind.wrap Go.IntKind.i64 (fu * bm)) (1024 : Int))))) + (Go.IntKind.wrap Go.IntKind.i64 (Int.tdiv (Go.IntKind.wrap Go.IntKind.i64 (fl * be)) (1024 : Int))))) = (kE (stE (bOk bi bf bv bt bm be bd) (gB bi bd po sp re pr fl l) (fOk fu ai)) (jC bm be fl fu))) ∧ ((0 : Int) = (stE (bOk bi bf bv bt bm be bd) (gB bi bd po sp re pr fl l) (fOk fu ai))))) ∧ (((List.drop (Int.toNat (1 : Int)) (List.take (Int.toNat (((List.length ((([] : List Int) ++ l) ++ [(2000 : Int)])) : Nat) : Int)) ((([] : List Int) ++ l) ++ [(2000 : Int)]))) = (kL (stE (bOk bi bf bv bt bm be bd) (gB bi bd po sp re pr fl l) (fOk fu ai)) (jL bd l (jMx bm be fl fu ai)))) ∧ True))
                False)
              False)
            ((((po = (kE (stE (bOk bi bf bv bt bm be bd) (gB bi bd po sp re pr fl l) (fOk fu ai)) po)) ∧ ((sp = (kE (stE (bOk bi bf bv bt bm be bd) (gB bi bd po sp re pr fl l) (fOk fu ai)) sp)) ∧ ((re = (kE (stE (bOk bi bf bv bt bm be bd) (gB bi bd po sp re pr fl l) (fOk fu ai)) re)) ∧ ((pr = (kE (stE (bOk bi bf bv bt bm be bd) (gB bi bd po sp re pr fl l) (fOk fu ai)) pr)) ∧ (((Go.IntKind.wrap Go.IntKind.i64 (fl + (Go.IntKind.wrap Go.IntKind.i64 ((Go.IntKind.wrap Go.IntKind.i64 (Int.tdiv (Go.IntKind.wrap Go.IntKind.i64 (fu * bm)) (1024 : Int))) - (Go.IntKind.wrap Go.IntKind.i64 (Int.tdiv (Go.IntKind.wrap Go.IntKind.i64 (fl * be)) (1024 : Int))))))) = (kE (stE (bOk bi bf bv bt bm be bd) (gB bi bd po sp re pr fl l) (fOk fu ai)) (jFl bm be fl fu))) ∧ True))))) ∧ (((Go.IntKind.wrap Go.IntKind.i64 ((Go.IntKind.wrap Go.IntKind.i64 (fu - (Go.IntKind.wrap Go.IntKind.i64 (Int.tdiv (Go.IntKind.wrap Go.IntKind.i64 (fu * bm)) (1024 : Int))))) + (Go.IntKind.wrap Go.IntKind.i64 (Int.tdiv (Go.IntKind.wrap Go.IntKind.i64 (fl * be)) (1024 : Int))))) = (kE (stE (bOk bi bf bv bt bm be bd) (gB bi bd po sp re pr fl l) (fOk fu ai)) (jC bm be fl fu))) ∧ ((0 : Int) = (stE (bOk bi bf bv bt bm be bd) (gB bi bd po sp re pr fl l) (fOk fu ai))))) ∧ ((((([] : List Int) ++ l) ++ [(2000 : Int)]) = (kL (stE (bOk bi bf bv bt bm be bd) (gB bi bd po sp re pr fl l) (fOk fu ai)) (jL bd l (jMx bm be fl fu ai)))) ∧ True)))
          False)
        False))))) = EXD Try.prog (conOf [within_e, pgood_e, clamp_e]) Try.f18 [.agg [.int .i64 bi, .int .i64 bf, .int .i64 bv, .int .i64 bt, .int .i64 bm, .int .i64 be, .int .i64 bd], .agg [.int .i64 po, .int .i64 sp, .int .i64 re, .int .i64 pr, .int .i64 fl, .row 0], .cel (.int .i64 fu), .cel (.int .i64 ai)] [.ints .i64 l] [] (pinject_res bi bf bv bt bm be bd po sp re pr fl l fu ai) := by kernel_rfl
theorem pinject_holds (bi : Int) (bf : Int) (bv : Int) (bt : Int) (bm : Int) (be : Int) (bd : Int) (po : Int) (sp : Int) (re : Int) (pr : Int) (fl : Int) (l : List Int) (fu : Int) (ai : Int)  : (cnd (!((bOk bi bf bv bt bm be bd) && (gB bi bd po sp re pr fl l)))
  (((((0 : Int) = (kE (stE (bOk bi bf bv bt bm be bd) (gB bi bd po sp re pr fl l) (fOk fu ai)) po)) ∧ (((0 : Int) = (kE (stE (bOk bi bf bv bt bm be bd) (gB bi bd po sp re pr fl l) (fOk fu ai)) sp)) ∧ (((0 : Int) = (kE (stE (bOk bi bf bv bt bm be bd) (gB bi bd po sp re pr fl l) (fOk fu ai)) re)) ∧ (((0 : Int) = (kE (stE (bOk bi bf bv bt bm be bd) (gB bi bd po sp re pr fl l) (fOk fu ai)) pr)) ∧ (((0 : Int) = (kE (stE (bOk bi bf bv bt bm be bd) (gB bi bd po sp re pr fl l) (fOk fu ai)) (jFl bm be fl fu))) ∧ True))))) ∧ (((0 : Int) = (kE (stE (bOk bi bf bv bt bm be bd) (gB bi bd po sp re pr fl l) (fOk fu ai)) (jC bm be fl fu))) ∧ ((1 : Int) = (stE (bOk bi bf bv bt bm be bd) (gB bi bd po sp re pr fl l) (fOk fu ai))))) ∧ (((kL (stE (bOk bi bf bv bt bm be bd) (gB bi bd po sp re pr fl l) (fOk fu ai)) (jL bd l (jMx bm be fl fu ai))) = ([] : List Int)) ∧ True))
  (cnd ((!(btw fu (0 : Int) (1048576 : Int))) || (!(btw ai (0 : Int) (1048576 : Int))))
    (((((0 : Int) = (kE (stE (bOk bi bf bv bt bm be bd) (gB bi bd po sp re pr fl l) (fOk fu ai)) po)) ∧ (((0 : Int) = (kE (stE (bOk bi bf bv bt bm be bd) (gB bi bd po sp re pr fl l) (fOk fu ai)) sp)) ∧ (((0 : Int) = (kE (stE (bOk bi bf bv bt bm be bd) (gB bi bd po sp re pr fl l) (fOk fu ai)) re)) ∧ (((0 : Int) = (kE (stE (bOk bi bf bv bt bm be bd) (gB bi bd po sp re pr fl l) (fOk fu ai)) pr)) ∧ (((0 : Int) = (kE (stE (bOk bi bf bv bt bm be bd) (gB bi bd po sp re pr fl l) (fOk fu ai)) (jFl bm be fl fu))) ∧ True))))) ∧ (((0 : Int) = (kE (stE (bOk bi bf bv bt bm be bd) (gB bi bd po sp re pr fl l) (fOk fu ai)) (jC bm be fl fu))) ∧ ((2 : Int) = (stE (bOk bi bf bv bt bm be bd) (gB bi bd po sp re pr fl l) (fOk fu ai))))) ∧ (((kL (stE (bOk bi bf bv bt bm be bd) (gB bi bd po sp re pr fl l) (fOk fu ai)) (jL bd l (jMx bm be fl fu ai))) = ([] : List Int)) ∧ True))
    (cnd (decide ((0 : Int) < (Go.IntKind.wrap Go.IntKind.i64 ((Go.IntKind.wrap Go.IntKind.i64 (fu - (Go.IntKind.wrap Go.IntKind.i64 (Int.tdiv (Go.IntKind.wrap Go.IntKind.i64 (fu * bm)) (1024 : Int))))) + (Go.IntKind.wrap Go.IntKind.i64 (Int.tdiv (Go.IntKind.wrap Go.IntKind.i64 (fl * be)) (1024 : Int)))))))
      (cnd (decide ((Go.IntKind.wrap Go.IntKind.i64 ((147 : Int) * (Go.IntKind.wrap Go.IntKind.i64 ((Go.IntKind.wrap Go.IntKind.i64 (fu - (Go.IntKind.wrap Go.IntKind.i64 (Int.tdiv (Go.IntKind.wrap Go.IntKind.i64 (fu * bm)) (1024 : Int))))) + (Go.IntKind.wrap Go.IntKind.i64 (Int.tdiv (Go.IntKind.wrap Go.IntKind.i64 (fl * be)) (1024 : Int))))))) ≠ (0 : Int)))
        (cnd (decide ((List.length (([] : List Int) ++ l)) ≤ 4294967296))
          (cnd (decide ((List.length ((([] : List Int) ++ l) ++ [(Min.min (Max.max (Go.IntKind.wrap Go.IntKind.i64 (Int.tdiv (Go.IntKind.wrap Go.IntKind.i64 ((10000 : Int) * ai)) (Go.IntKind.wrap Go.IntKind.i64 ((147 : Int) * (Go.IntKind.wrap Go.IntKind.i64 ((Go.IntKind.wrap Go.IntKind.i64 (fu - (Go.IntKind.wrap Go.IntKind.i64 (Int.tdiv (Go.IntKind.wrap Go.IntKind.i64 (fu * bm)) (1024 : Int))))) + (Go.IntKind.wrap Go.IntKind.i64 (Int.tdiv (Go.IntKind.wrap Go.IntKind.i64 (fl * be)) (1024 : Int))))))))) (500 : Int)) (2000 : Int))])) ≤ 4294967296))
            (cnd (decide ((Go.IntKind.wrap Go.IntKind.i64 (bd + (1 : Int))) < (((List.length ((([] : List Int) ++ l) ++ [(Min.min (Max.max (Go.IntKind.wrap Go.IntKind.i64 (Int.tdiv (Go.IntKind.wrap Go.IntKind.i64 ((10000 : Int) * ai)) (Go.IntKind.wrap Go.IntKind.i64 ((147 : Int) * (Go.IntKind.wrap Go.IntKind.i64 ((Go.IntKind.wrap Go.IntKind.i64 (fu - (Go.IntKind.wrap Go.IntKind.i64 (Int.tdiv (Go.IntKind.wrap Go.IntKind.i64 (fu * bm)) (1024 : Int))))) + (Go.IntKind.wrap Go.IntKind.i64 (Int.tdiv (Go.IntKind.wrap Go.IntKind.i64 (fl * be)) (1024 : Int))))))))) (500 : Int)) (2000 : Int))])) : Nat) : Int)))
              (cnd (decide ((1 : Int) ≤ (((List.length ((([] : List Int) ++ l) ++ [(Min.min (Max.max (Go.IntKind.wrap Go.IntKind.i64 (Int.tdiv (Go.IntKind.wrap Go.IntKind.i64 ((10000 : Int) * ai)) (Go.IntKind.wrap Go.IntKind.i64 ((147 : Int) * (Go.IntKind.wrap Go.IntKind.i64 ((Go.IntKind.wrap Go.IntKind.i64 (fu - (Go.IntKind.wrap Go.IntKind.i64 (Int.tdiv (Go.IntKind.wrap Go.IntKind.i64 (fu * bm)) (1024 : Int))))) + (Go.IntKind.wrap Go.IntKind.i64 (Int.tdiv (Go.IntKind.wrap Go.IntKind.i64 (fl * be)) (1024 : Int))))))))) (500 : Int)) (2000 : Int))])) : Nat) : Int)))
                (cnd (decide ((((List.length ((([] : List Int) ++ l) ++ [(Min.min (Max.max (Go.IntKind.wrap Go.IntKind.i64 (Int.tdiv (Go.IntKind.wrap Go.IntKind.i64 ((10000 : Int) * ai)) (Go.IntKind.wrap Go.IntKind.i64 ((147 : Int) * (Go.IntKind.wrap Go.IntKind.i64 ((Go.IntKind.wrap Go.IntKind.i64 (fu - (Go.IntKind.wrap Go.IntKind.i64 (Int.tdiv (Go.IntKind.wrap Go.IntKind.i64 (fu * bm)) (1024 : Int))))) + (Go.IntKind.wrap Go.IntKind.i64 (Int.tdiv (Go.IntKind.wrap Go.IntKind.i64 (fl * be)) (1024 : Int))))))))) (500 : Int)) (2000 : Int))])) : Nat) : Int) ≤ (((List.length ((([] : List Int) ++ l) ++ [(Min.min (Max.max (Go.IntKind.wrap Go.IntKind.i64 (Int.tdiv (Go.IntKind.wrap Go.IntKind.i64 ((10000 : Int) * ai)) (Go.IntKind.wrap Go.IntKind.i64 ((147 : Int) * (Go.IntKind.wrap Go.IntKind.i64 ((Go.IntKind.wrap Go.IntKind.i64 (fu - (Go.IntKind.wrap Go.IntKind.i64 (Int.tdiv (Go.IntKind.wrap Go.IntKind.i64 (fu * bm)) (1024 : Int))))) + (Go.IntKind.wrap Go.IntKind.i64 (Int.tdiv (Go.IntKind.wrap Go.IntKind.i64 (fl * be)) (1024 : Int))))))))) (500 : Int)) (2000 : Int))])) : Nat) : Int)))
                  ((((po = (kE (stE (bOk bi bf bv bt bm be bd) (gB bi bd po sp re pr fl l) (fOk fu ai)) po)) ∧ ((sp = (kE (stE (bOk bi bf bv bt bm be bd) (gB bi bd po sp re pr fl l) (fOk fu ai)) sp)) ∧ ((re = (kE (stE (bOk bi bf bv bt bm be bd) (gB bi bd po sp re pr fl l) (fOk fu ai)) re)) ∧ ((pr = (kE (stE (bOk bi bf bv bt bm be bd) (gB bi bd po sp re pr fl l) (fOk fu ai)) pr)) ∧ (((Go.IntKind.wrap Go.IntKind.i64 (fl + (Go.IntKind.wrap Go.IntKind.i64 ((Go.IntKind.wrap Go.IntKind.i64 (Int.tdiv (Go.IntKind.wrap Go.IntKind.i64 (fu * bm)) (1024 : Int))) - (Go.IntKind.wrap Go.IntKind.i64 (Int.tdiv (Go.IntKind.wrap Go.IntKind.i64 (fl * be)) (1024 : Int))))))) = (kE (stE (bOk bi bf bv bt bm be bd) (gB bi bd po sp re pr fl l) (fOk fu ai)) (jFl bm be fl fu))) ∧ True))))) ∧ (((Go.IntKind.wrap Go.IntKind.i64 ((Go.IntKind.wrap Go.IntKind.i64 (fu - (Go.IntKind.wrap Go.IntKind.i64 (Int.tdiv (Go.IntKind.wrap Go.IntKind.i64 (fu * bm)) (1024 : Int))))) + (Go.IntKind.wrap Go.IntKind.i64 (Int.tdiv (Go.IntKind.wrap Go.IntKind.i64 (fl * be)) (1024 : Int))))) = (kE (stE (bOk bi bf bv bt bm be bd) (gB bi bd po sp re pr fl l) (fOk fu ai)) (jC bm be fl fu))) ∧ ((0 : Int) = (stE (bOk bi bf bv bt bm be bd) (gB bi bd po sp re pr fl l) (fOk fu ai))))) ∧ (((List.drop (Int.toNat (1 : Int)) (List.take (Int.toNat (((List.length ((([] : List Int) ++ l) ++ [(Min.min (Max.max (Go.IntKind.wrap Go.IntKind.i64 (Int.tdiv (Go.IntKind.wrap Go.IntKind.i64 ((10000 : Int) * ai)) (Go.IntKind.wrap Go.IntKind.i64 ((147 : Int) * (Go.IntKind.wrap Go.IntKind.i64 ((Go.IntKind.wrap Go.IntKind.i64 (fu - (Go.IntKind.wrap Go.IntKind.i64 (Int.tdiv (Go.IntKind.wrap Go.IntKind.i64 (fu * bm)) (1024 : Int))))) + (Go.IntKind.wrap Go.IntKind.i64 (Int.tdiv (Go.IntKind.wrap Go.IntKind.i64 (fl * be)) (1024 : Int))))))))) (500 : Int)) (2000 : Int))])) : Nat) : Int)) ((([] : List Int) ++ l) ++ [(Min.min (Max.max (Go.IntKind.wrap Go.IntKind.i64 (Int.tdiv (Go.IntKind.wrap Go.IntKind.i64 ((10000 : Int) * ai)) (Go.IntKind.wrap Go.IntKind.i64 ((147 : Int) * (Go.IntKind.wrap Go.IntKind.i64 ((Go.IntKind.wrap Go.IntKind.i64 (fu - (Go.IntKind.wrap Go.IntKind.i64 (Int.tdiv (Go.IntKind.wrap Go.IntKind.i64 (fu * bm)) (1024 : Int))))) + (Go.IntKind.wrap Go.IntKind.i64 (Int.tdiv (Go.IntKind.wrap Go.IntKind.i64 (fl * be)) (1024 : Int))))))))) (500 : Int)) (2000 : Int))]))) = (kL (stE (bOk bi bf bv bt bm be bd) (gB bi bd po sp re pr fl l) (fOk fu ai)) (jL bd l (jMx bm be fl fu ai)))) ∧ True))
                  False)
                False)
              ((((po = (kE (stE (bOk bi bf bv bt bm be bd) (gB bi bd po sp re pr fl l) (fOk fu ai)) po)) ∧ ((sp = (kE (stE (bOk bi bf bv bt bm be bd) (gB bi bd po sp re pr fl l) (fOk fu ai)) sp)) ∧ ((re = (kE (stE (bOk bi bf bv bt bm be bd) (gB bi bd po sp re pr fl l) (fOk fu ai)) re)) ∧ ((pr = (kE (stE (bOk bi bf bv bt bm be bd) (gB bi bd po sp re pr fl l) (fOk fu ai)) pr)) ∧ (((Go.IntKind.wrap Go.IntKind.i64 (fl + (Go.IntKind.wrap Go.IntKind.i64 ((Go.IntKind.wrap Go.IntKind.i64 (Int.tdiv (Go.IntKind.wrap Go.IntKind.i64 (fu * bm)) (1024 : Int))) - (Go.IntKind.wrap Go.IntKind.i64 (Int.tdiv (Go.IntKind.wrap Go.IntKind.i64 (fl * be)) (1024 : Int))))))) = (kE (stE (bOk bi bf bv bt bm be bd) (gB bi bd po sp re pr fl l) (fOk fu ai)) (jFl bm be fl fu))) ∧ True))))) ∧ (((Go.IntKind.wrap Go.IntKind.i64 ((Go.IntKind.wrap Go.IntKind.i64 (fu - (Go.IntKind.wrap Go.IntKind.i64 (Int.tdiv (Go.IntKind.wrap Go.IntKind.i64 (fu * bm)) (1024 : Int))))) + (Go.IntKind.wrap Go.IntKind.i64 (Int.tdiv (Go.IntKind.wrap Go.IntKind.i64 (fl * be)) (1024 : Int))))) = (kE (stE (bOk bi bf bv bt bm be bd) (gB bi bd po sp re pr fl l) (fOk fu ai)) (jC bm be fl fu))) ∧ ((0 : Int) = (stE (bOk bi bf bv bt bm be bd) (gB bi bd po sp re pr fl l) (fOk fu ai))))) ∧ ((((([] : List Int) ++ l) ++ [(Min.min (Max.max (Go.IntKind.wrap Go.IntKind.i64 (Int.tdiv (Go.IntKind.wrap Go.IntKind.i64 ((10000 : Int) * ai)) (Go.IntKind.wrap Go.IntKind.i64 ((147 : Int) * (Go.IntKind.wrap Go.IntKind.i64 ((Go.IntKind.wrap Go.IntKind.i64 (fu - (Go.IntKind.wrap Go.IntKind.i64 (Int.tdiv (Go.IntKind.wrap Go.IntKind.i64 (fu * bm)) (1024 : Int))))) + (Go.IntKind.wrap Go.IntKind.i64 (Int.tdiv (Go.IntKind.wrap Go.IntKind.i64 (fl * be)) (1024 : Int))))))))) (500 : Int)) (2000 : Int))]) = (kL (stE (bOk bi bf bv bt bm be bd) (gB bi bd po sp re pr fl l) (fOk fu ai)) (jL bd l (jMx bm be fl fu ai)))) ∧ True)))
            False)
          False)
        False)
      (cnd (decide ((List.length (([] : List Int) ++ l)) ≤ 4294967296))
        (cnd (decide ((List.length ((([] : List Int) ++ l) ++ [(2000 : Int)])) ≤ 4294967296))
          (cnd (decide ((Go.IntKind.wrap Go.IntKind.i64 (bd + (1 : Int))) < (((List.length ((([] : List Int) ++ l) ++ [(2000 : Int)])) : Nat) : Int)))
            (cnd (decide ((1 : Int) ≤ (((List.length ((([] : List Int) ++ l) ++ [(2000 : Int)])) : Nat) : Int)))
              (cnd (decide ((((List.length ((([] : List Int) ++ l) ++ [(2000 : Int)])) : Nat) : Int) ≤ (((List.length ((([] : List Int) ++ l) ++ [(2000 : Int)])) : Nat) : Int)))
                ((((po = (kE (stE (bOk bi bf bv bt bm be bd) (gB bi bd po sp re pr fl l) (fOk fu ai)) po)) ∧ ((sp = (kE (stE (bOk bi bf bv bt bm be bd) (gB bi bd po sp re pr fl l) (fOk fu ai)) sp)) ∧ ((re = (kE (stE (bOk bi bf bv bt bm be bd) (gB bi bd po sp re pr fl l) (fOk fu ai)) re)) ∧ ((pr = (kE (stE (bOk bi bf bv bt bm be bd) (gB bi bd po sp re pr fl l) (fOk fu ai)) pr)) ∧ (((Go.IntKind.wrap Go.IntKind.i64 (fl + (Go.IntKind.wrap Go.IntKind.i64 ((Go.IntKind.wrap Go.IntKind.i64 (Int.tdiv (Go.IntKind.wrap Go.IntKind.i64 (fu * bm)) (1024 : Int))) - (Go.IntKind.wrap Go.IntKind.i64 (Int.tdiv (Go.IntKind.wrap Go.IntKind.i64 (fl * be)) (1024 : Int))))))) = (kE (stE (bOk bi bf bv bt bm be bd) (gB bi bd po sp re pr fl l) (fOk fu ai)) (jFl bm be fl fu))) ∧ True))))) ∧ (((Go.IntKind.wrap Go.IntKind.i64 ((Go.IntKind.wrap Go.IntKind.i64 (fu - (Go.IntKind.wrap Go.IntKind.i64 (Int.tdiv (Go.IntKind.wrap Go.IntKind.i64 (fu * bm)) (1024 : Int))))) + (Go.IntKind.wrap Go.IntKind.i64 (Int.tdiv (Go.IntKind.wrap Go.IntKind.i64 (fl * be)) (1024 : Int))))) = (kE (stE (bOk bi bf bv bt bm be bd) (gB bi bd po sp re pr fl l) (fOk fu ai)) (jC bm be fl fu))) ∧ ((0 : Int) = (stE (bOk bi bf bv bt bm be bd) (gB bi bd po sp re pr fl l) (fOk fu ai))))) ∧ (((List.drop (Int.toNat (1 : Int)) (List.take (Int.toNat (((List.length ((([] : List Int) ++ l) ++ [(2000 : Int)])) : Nat) : Int)) ((([] : List Int) ++ l) ++ [(2000 : Int)]))) = (kL (stE (bOk bi bf bv bt bm be bd) (gB bi bd po sp re pr fl l) (fOk fu ai)) (jL bd l (jMx bm be fl fu ai)))) ∧ True))
                False)
              False)
            ((((po = (kE (stE (bOk bi bf bv bt bm be bd) (gB bi bd po sp re pr fl l) (fOk fu ai)) po)) ∧ ((sp = (kE (stE (bOk bi bf bv bt bm be bd) (gB bi bd po sp re pr fl l) (fOk fu ai)) sp)) ∧ ((re = (kE (stE (bOk bi bf bv bt bm be bd) (gB bi bd po sp re pr fl l) (fOk fu ai)) re)) ∧ ((pr = (kE (stE (bOk bi bf bv bt bm be bd) (gB bi bd po sp re pr fl l) (fOk fu ai)) pr)) ∧ (((Go.IntKind.wrap Go.IntKind.i64 (fl + (Go.IntKind.wrap Go.IntKind.i64 ((Go.IntKind.wrap Go.IntKind.i64 (Int.tdiv (Go.IntKind.wrap Go.IntKind.i64 (fu * bm)) (1024 : Int))) - (Go.IntKind.wrap Go.IntKind.i64 (Int.tdiv (Go.IntKind.wrap Go.IntKind.i64 (fl * be)) (1024 : Int))))))) = (kE (stE (bOk bi bf bv bt bm be bd) (gB bi bd po sp re pr fl l) (fOk fu ai)) (jFl bm be fl fu))) ∧ True))))) ∧ (((Go.IntKind.wrap Go.IntKind.i64 ((Go.IntKind.wrap Go.IntKind.i64 (fu - (Go.IntKind.wrap Go.IntKind.i64 (Int.tdiv (Go.IntKind.wrap Go.IntKind.i64 (fu * bm)) (1024 : Int))))) + (Go.IntKind.wrap Go.IntKind.i64 (Int.tdiv (Go.IntKind.wrap Go.IntKind.i64 (fl * be)) (1024 : Int))))) = (kE (stE (bOk bi bf bv bt bm be bd) (gB bi bd po sp re pr fl l) (fOk fu ai)) (jC bm be fl fu))) ∧ ((0 : Int) = (stE (bOk bi bf bv bt bm be bd) (gB bi bd po sp re pr fl l) (fOk fu ai))))) ∧ ((((([] : List Int) ++ l) ++ [(2000 : Int)]) = (kL (stE (bOk bi bf bv bt bm be bd) (gB bi bd po sp re pr fl l) (fOk fu ai)) (jL bd l (jMx bm be fl fu ai)))) ∧ True)))
          False)
        False)))) := by
  cases hb : bOk bi bf bv bt bm be bd with
  | false => simp [cnd, stE, kE, kL]
  | true =>
    cases hg : gB bi bd po sp re pr fl l with
    | false => simp [cnd, stE, kE, kL]
    | true =>
      have ea : ((!btw fu 0 1048576) || (!btw ai 0 1048576)) = !fOk fu ai := by
        simp only [fOk, Bool.not_and]
      rw [ea]
      cases ha : fOk fu ai with
      | false => simp [cnd, stE, kE, kL]
      | true =>
        have hgH : gH bi bd po sp re pr fl l.length = true := by
          unfold gB at hg
          simp only [Bool.and_eq_true] at hg
          exact hg.1
        have hb2 := bOk_iff.1 hb
        have hg2 := gH_iff.1 hgH
        have ha2 := fOk_iff.1 ha
        obtain ⟨b1, b2, b3, b4⟩ := jB hb2.2.2.2.2.1 hb2.2.2.2.2.2.1 hg2.2.2.2.2.1 ha2.1
        rw [w64 (n := fu * bm) (by omega) (by omega), w64 (n := fl * be) (by omega) (by omega), tdiv_pos b1.1, tdiv_pos b3.1, show fu * bm / 1024 = jSt bm fu from rfl, show fl * be / 1024 = jLe be fl from rfl, w64 (n := jSt bm fu) (by omega) (by omega), w64 (n := jLe be fl) (by omega) (by omega), w64 (n := fu - jSt bm fu) (by omega) (by omega), w64 (n := fu - jSt bm fu + jLe be fl) (by omega) (by omega), show fu - jSt bm fu + jLe be fl = jC bm be fl fu from rfl, w64 (n := jSt bm fu - jLe be fl) (by omega) (by omega), w64 (n := fl + (jSt bm fu - jLe be fl)) (by omega) (by omega), show fl + (jSt bm fu - jLe be fl) = jFl bm be fl fu from rfl]
        have hc : 0 ≤ jC bm be fl fu ∧ jC bm be fl fu ≤ 4294967296 := by unfold jC; omega
        rw [w64 (n := 147 * jC bm be fl fu) (by omega) (by omega), w64 (n := 10000 * ai) (by omega) (by omega), w64 (n := bd + 1) (by omega) (by omega), tdiv_pos (by omega : 0 ≤ 10000 * ai)]
        have hz : stE true true true = 0 := rfl
        have hlen : (l.length : Int) ≤ 21 := by omega
        have j1 : decide (([] ++ l).length ≤ 4294967296) = true := by simp; omega
        have j2 : ∀ m : Int, decide ((([] ++ l) ++ [m]).length ≤ 4294967296) = true := by intro m; simp; omega
        have j3 : ∀ m : Int, decide ((1 : Int) ≤ (((([] ++ l) ++ [m]).length : Nat) : Int)) = true := by intro m; rw [decide_eq_true_eq]; simp; omega
        have e0 : ∀ m : Int, ([] ++ l) ++ [m] = l ++ [m] := fun m => rfl
        have fin : ∀ m : Int, (cnd (decide (bd + 1 < (((([] ++ l) ++ [m]).length : Nat) : Int))) ((([] ++ l) ++ [m]).drop 1 = jL bd l m) ((([] ++ l) ++ [m]) = jL bd l m)) := by
          intro m
          unfold jL
          rw [e0]
          by_cases h : bd + 1 < (((l ++ [m]).length : Nat) : Int)
          · rw [if_pos h, decide_eq_true h]; rfl
          · rw [if_neg h, decide_eq_false h]; rfl
        by_cases hp : 0 < jC bm be fl fu
        · have hq := quo_pos (x := 10000 * ai) (y := 147 * jC bm be fl fu) (by omega) (by omega)
          rw [w64 (n := 10000 * ai / (147 * jC bm be fl fu)) (by omega) (by omega)]
          have em : min (max (10000 * ai / (147 * jC bm be fl fu)) 500) 2000 = jMx bm be fl fu ai := by unfold jMx; rw [if_pos hp]
          rw [em]
          have j4 : decide (0 < jC bm be fl fu) = true := by simpa using hp
          have j5 : decide (147 * jC bm be fl fu ≠ 0) = true := by simp; omega
          have f := fin (jMx bm be fl fu ai)
          simp only [j1, j2, j3, j4, j5, cnd, Bool.not_true, hz, kE_zero, kL_zero, Int.le_refl, decide_true, Int.toNat_natCast, List.take_length] at f ⊢
          generalize decide (bd + 1 < (((([] ++ l) ++ [jMx bm be fl fu ai]).length : Nat) : Int)) = q at f ⊢
          cases q <;> exact ⟨by simp, f, trivial⟩
        · have em : jMx bm be fl fu ai = 2000 := by unfold jMx; rw [if_neg hp]
          have j4 : decide (0 < jC bm be fl fu) = false := by simpa using hp
          rw [em]
          have f := fin 2000
          simp only [j1, j2, j3, j4, cnd, Bool.not_true, hz, kE_zero, kL_zero, Int.le_refl, decide_true, Int.toNat_natCast, List.take_length] at f ⊢
          generalize decide (bd + 1 < (((([] ++ l) ++ [(2000 : Int)]).length : Nat) : Int)) = q at f ⊢
          cases q <;> exact ⟨by simp, f, trivial⟩
set_option maxHeartbeats 2000000 in
theorem pinject_ok : SoundEnt Try.prog pinject_e := by
  refine ent_of_ex (Γ := (conOf [within_e, pgood_e, clamp_e])) (conOf_sound (scons within_ok (scons pgood_ok (scons clamp_ok snil)))) (by kernel_rfl) Try.func18 (by kernel_rfl) (by kernel_rfl) (fun args rows caps res h ho => ?_)
  change pinject_go args rows caps = some res at h
  unfold pinject_go at h
  split at h
  · simp only [Option.some.injEq] at h
    subst h
    rename_i q0_ q1_ q2_ q3_ q4_ q5_ q6_ q7_ q8_ q9_ q10_ q11_ q13_ q14_ q12_
    skip
    exact EX.of (pinject_tree q0_ q1_ q2_ q3_ q4_ q5_ q6_ q7_ q8_ q9_ q10_ q11_ q12_ q13_ q14_) (pinject_holds q0_ q1_ q2_ q3_ q4_ q5_ q6_ q7_ q8_ q9_ q10_ q11_ q12_ q13_ q14_)
  · cases h
def rin_res (x : Int) (lo : Int) (hi : Int) : CRes := ⟨[], .one (.cel (.bool (btw x lo hi))), []⟩
def rin_go : List TV → List RowA → List (List CV) → Option CRes := fun args rows caps =>
  match args, rows, caps with
  | [.cel (.int .i64 x), .cel (.int .i64 lo), .cel (.int .i64 hi)], [], [] => some (rin_res x lo hi)
  | _, _, _ => none
def rin_e : Ent := ⟨32, [], rin_go⟩
set_option maxRecDepth 100000 in
theorem rin_tree (x : Int) (lo : Int) (hi : Int) : ((((decide (lo ≤ x)) && (decide (x ≤ hi))) = (btw x lo hi))) = EXD Try.prog (conOf []) Try.f32 [.cel (.int .i64 x), .cel (.int .i64 lo), .cel (.int .i64 hi)] [] [] (rin_res x lo hi) := by kernel_rfl
theorem rin_holds (x : Int) (lo : Int) (hi : Int)  : (((decide (lo ≤ x)) && (decide (x ≤ hi))) = (btw x lo hi)) := by
  rfl
set_option maxHeartbeats 2000000 in
theorem rin_ok : SoundEnt Try.prog rin_e := by
  refine ent_of_ex (Γ := (conOf [])) (conOf_sound snil) (by kernel_rfl) Try.func32 (by kernel_rfl) (by kernel_rfl) (fun args rows caps res h ho => ?_)
  change rin_go args rows caps = some res at h
  unfold rin_go at h
  split at h
  · simp only [Option.some.injEq] at h
    subst h
    rename_i q0_ q1_ q2_
    skip
    exact EX.of (rin_tree q0_ q1_ q2_) (rin_holds q0_ q1_ q2_)
  · cases h
def rvalid_res (bi : Int) (bf : Int) (bv : Int) (bt : Int) (bm : Int) (be : Int) (bd : Int) : CRes := ⟨[], .one (.cel (.bool (bOk bi bf bv bt bm be bd))), []⟩
def rvalid_go : List TV → List RowA → List (List CV) → Option CRes := fun args rows caps =>
  match args, rows, caps with
  | [.agg [.int .i64 bi, .int .i64 bf, .int .i64 bv, .int .i64 bt, .int .i64 bm, .int .i64 be, .int .i64 bd]], [], [] => some (rvalid_res bi bf bv bt bm be bd)
  | _, _, _ => none
def rvalid_e : Ent := ⟨14, [], rvalid_go⟩
set_option maxRecDepth 100000 in
theorem rvalid_tree (bi : Int) (bf : Int) (bv : Int) (bt : Int) (bm : Int) (be : Int) (bd : Int) : (((((((((btw bi (100 : Int) (1048576 : Int)) && (btw bf (0 : Int) (65536 : Int))) && (btw bv (1 : Int) (65536 : Int))) && (btw bt (0 : Int) (65536 : Int))) && (btw bm (0 : Int) (1023 : Int))) && (btw be (1 : Int) (1024 : Int))) && (btw bd (0 : Int) (20 : Int))) = (bOk bi bf bv bt bm be bd))) = EXD Try.prog (conOf [rin_e]) Try.f14 [.agg [.int .i64 bi, .int .i64 bf, .int .i64 bv, .int .i64 bt, .int .i64 bm, .int .i64 be, .int .i64 bd]] [] [] (rvalid_res bi bf bv bt bm be bd) := by kernel_rfl
theorem rvalid_holds (bi : Int) (bf : Int) (bv : Int) (bt : Int) (bm : Int) (be : Int) (bd : Int)  : ((((((((btw bi (100 : Int) (1048576 : Int)) && (btw bf (0 : Int) (65536 : Int))) && (btw bv (1 : Int) (65536 : Int))) && (btw bt (0 : Int) (65536 : Int))) && (btw bm (0 : Int) (1023 : Int))) && (btw be (1 : Int) (1024 : Int))) && (btw bd (0 : Int) (20 : Int))) = (bOk bi bf bv bt bm be bd)) := by
  unfold bOk
  cases btw bi 100 1048576 <;> cases btw bf 0 65536 <;> cases btw bt 0 65536 <;> cases btw bv 1 65536 <;> rfl
set_option maxHeartbeats 2000000 in
theorem rvalid_ok : SoundEnt Try.prog rvalid_e := by
  refine ent_of_ex (Γ := (conOf [rin_e])) (conOf_sound (scons rin_ok snil)) (by kernel_rfl) Try.func14 (by kernel_rfl) (by kernel_rfl) (fun args rows caps res h ho => ?_)
  change rvalid_go args rows caps = some res at h
  unfold rvalid_go at h
  split at h
  · simp only [Option.some.injEq] at h
    subst h
    rename_i q0_ q1_ q2_ q3_ q4_ q5_ q6_
    skip
    exact EX.of (rvalid_tree q0_ q1_ q2_ q3_ q4_ q5_ q6_) (rvalid_holds q0_ q1_ q2_ q3_ q4_ q5_ q6_)
  · cases h
def rgood_res (bi : Int) (bf : Int) (bv : Int) (bt : Int) (bm : Int) (be : Int) (bd : Int) (po : Int) (sp : Int) (re : Int) (pr : Int) (fl : Int) (l : List Int) : CRes := ⟨[bOk bi bf bv bt bm be bd], .one (.cel (.bool (gB bi bd po sp re pr fl l))), []⟩
def rgood_go : List TV → List RowA → List (List CV) → Option CRes := fun args rows caps =>
  match args, rows, caps with
  | [.agg [.int .i64 bi, .int .i64 bf, .int .i64 bv, .int .i64 bt, .int .i64 bm, .int .i64 be, .int .i64 bd], .agg [.int .i64 po, .int .i64 sp, .int .i64 re, .int .i64 pr, .int .i64 fl, .row 0]], [.ints .i64 l], [] => some (rgood_res bi bf bv bt bm be bd po sp re pr fl l)
  | _, _, _ => none
def rgood_e : Ent := ⟨15, [.ints .i64 []], rgood_go⟩
def rgood_L1_F (bi : Int) (bf : Int) (bv : Int) (bt : Int) (bm : Int) (be : Int) (bd : Int) (po : Int) (sp : Int) (re : Int) (pr : Int) (fl : Int) (l : List Int) (i : Int) : St := ⟨60, [], [(5, (.one (.cel (.int .i64 i)))), (4, (.one (.cel (.bool Bool.false)))), (3, (.one (.cel (.ptr 1 0))))], [[(.int .i64 bi), (.int .i64 bf), (.int .i64 bv), (.int .i64 bt), (.int .i64 bm), (.int .i64 be), (.int .i64 bd)], [(.int .i64 po), (.int .i64 sp), (.int .i64 re), (.int .i64 pr), (.int .i64 fl), (.row 0)]], [⟨(.ints .i64 l), none⟩], 0⟩
def rgood_L1_I (bi : Int) (bf : Int) (bv : Int) (bt : Int) (bm : Int) (be : Int) (bd : Int) (po : Int) (sp : Int) (re : Int) (pr : Int) (fl : Int) (l : List Int) (i : Int) : Prop := (0 ≤ i ∧ i ≤ l.length ∧ (l.length : Int) ≤ 21) ∧ (gH bi bd po sp re pr fl l.length = true) ∧ ((l.take i.toNat).all pV = true)
def rgood_L1_m (bi : Int) (bf : Int) (bv : Int) (bt : Int) (bm : Int) (be : Int) (bd : Int) (po : Int) (sp : Int) (re : Int) (pr : Int) (fl : Int) (l : List Int) (i : Int) : Nat := (l.length - i).toNat
def rgood_L1_N (bi : Int) (bf : Int) (bv : Int) (bt : Int) (bm : Int) (be : Int) (bd : Int) (po : Int) (sp : Int) (re : Int) (pr : Int) (fl : Int) (l : List Int) (i' : Int) (st_ : St) : Prop := getI st_ 5 fun i => rgood_L1_I bi bf bv bt bm be bd po sp re pr fl l i ∧ rgood_L1_m bi bf bv bt bm be bd po sp re pr fl l i < rgood_L1_m bi bf bv bt bm be bd po sp re pr fl l i' ∧ SubA st_ (rgood_L1_F bi bf bv bt bm be bd po sp re pr fl l i)
def rgood_L1_E (bi : Int) (bf : Int) (bv : Int) (bt : Int) (bm : Int) (be : Int) (bd : Int) (po : Int) (sp : Int) (re : Int) (pr : Int) (fl : Int) (l : List Int) (st_ : St) : Prop := getI st_ 5 fun i => rgood_L1_I bi bf bv bt bm be bd po sp re pr fl l i ∧ SubA st_ (rgood_L1_F bi bf bv bt bm be bd po sp re pr fl l i)
def rgood_L1_S1 (bi : Int) (bf : Int) (bv : Int) (bt : Int) (bm : Int) (be : Int) (bd : Int) (po : Int) (sp : Int) (re : Int) (pr : Int) (fl : Int) (l : List Int) : St := ⟨60, [37, 31, 25, 16, 10], [(5, (.one (.cel (.int .i64 (0 : Int))))), (45, (.one (.cel (.bool ((((((!(btw po (0 : Int) (3019898879 : Int))) || (!(btw sp (0 : Int) (262144 : Int)))) || (!(btw re (0 : Int) (Go.IntKind.wrap Go.IntKind.i64 (bi - (1 : Int)))))) || (!(btw pr (50 : Int) (1013 : Int)))) || (!(btw fl (0 : Int) (2147483648 : Int)))) || (decide ((Go.IntKind.wrap Go.IntKind.i64 (bd + (1 : Int))) < (((List.length l) : Nat) : Int)))))))), (44, (.spec 37 Bool.false (.cel (.bool (decide ((Go.IntKind.wrap Go.IntKind.i64 (bd + (1 : Int))) < (((List.length l) : Nat) : Int))))))), (43, (.spec 37 Bool.false (.cel (.int .i64 (Go.IntKind.wrap Go.IntKind.i64 (bd + (1 : Int))))))), (42, (.spec 37 Bool.false (.cel (.int .i64 bd)))), (41, (.spec 37 Bool.false (.cel (.ptr 0 6)))), (40, (.spec 37 Bool.false (.cel (.int .i64 (((List.length l) : Nat) : Int))))), (39, (.spec 37 Bool.false (.cel (.row 0)))), (38, (.spec 37 Bool.false (.cel (.ptr 1 5)))), (37, (.one (.cel (.bool (((((!(btw po (0 : Int) (3019898879 : Int))) || (!(btw sp (0 : Int) (262144 : Int)))) || (!(btw re (0 : Int) (Go.IntKind.wrap Go.IntKind.i64 (bi - (1 : Int)))))) || (!(btw pr (50 : Int) (1013 : Int)))) || (!(btw fl (0 : Int) (2147483648 : Int)))))))), (36, (.one (.cel (.bool (((((!(btw po (0 : Int) (3019898879 : Int))) || (!(btw sp (0 : Int) (262144 : Int)))) || (!(btw re (0 : Int) (Go.IntKind.wrap Go.IntKind.i64 (bi - (1 : Int)))))) || (!(btw pr (50 : Int) (1013 : Int)))) || (!(btw fl (0 : Int) (2147483648 : Int)))))))), (35, (.spec 31 Bool.false (.cel (.bool (!(btw fl (0 : Int) (2147483648 : Int))))))), (34, (.spec 31 Bool.false (.cel (.bool (btw fl (0 : Int) (2147483648 : Int)))))), (33, (.spec 31 Bool.false (.cel (.int .i64 fl)))), (32, (.spec 31 Bool.false (.cel (.ptr 1 4)))), (31, (.one (.cel (.bool ((((!(btw po (0 : Int) (3019898879 : Int))) || (!(btw sp (0 : Int) (262144 : Int)))) || (!(btw re (0 : Int) (Go.IntKind.wrap Go.IntKind.i64 (bi - (1 : Int)))))) || (!(btw pr (50 : Int) (1013 : Int)))))))), (30, (.one (.cel (.bool ((((!(btw po (0 : Int) (3019898879 : Int))) || (!(btw sp (0 : Int) (262144 : Int)))) || (!(btw re (0 : Int) (Go.IntKind.wrap Go.IntKind.i64 (bi - (1 : Int)))))) || (!(btw pr (50 : Int) (1013 : Int)))))))), (29, (.spec 25 Bool.false (.cel (.bool (!(btw pr (50 : Int) (1013 : Int))))))), (28, (.spec 25 Bool.false (.cel (.bool (btw pr (50 : Int) (1013 : Int)))))), (27, (.spec 25 Bool.false (.cel (.int .i64 pr)))), (26, (.spec 25 Bool.false (.cel (.ptr 1 3)))), (25, (.one (.cel (.bool (((!(btw po (0 : Int) (3019898879 : Int))) || (!(btw sp (0 : Int) (262144 : Int)))) || (!(btw re (0 : Int) (Go.IntKind.wrap Go.IntKind.i64 (bi - (1 : Int)))))))))), (24, (.one (.cel (.bool (((!(btw po (0 : Int) (3019898879 : Int))) || (!(btw sp (0 : Int) (262144 : Int)))) || (!(btw re (0 : Int) (Go.IntKind.wrap Go.IntKind.i64 (bi - (1 : Int)))))))))), (23, (.spec 16 Bool.false (.cel (.bool (!(btw re (0 : Int) (Go.IntKind.wrap Go.IntKind.i64 (bi - (1 : Int))))))))), (22, (.spec 16 Bool.false (.cel (.bool (btw re (0 : Int) (Go.IntKind.wrap Go.IntKind.i64 (bi - (1 : Int)))))))), (21, (.spec 16 Bool.false (.cel (.int .i64 (Go.IntKind.wrap Go.IntKind.i64 (bi - (1 : Int))))))), (20, (.spec 16 Bool.false (.cel (.int .i64 bi)))), (19, (.spec 16 Bool.false (.cel (.ptr 0 0)))), (18, (.spec 16 Bool.false (.cel (.int .i64 re)))), (17, (.spec 16 Bool.false (.cel (.ptr 1 2)))), (16, (.one (.cel (.bool ((!(btw po (0 : Int) (3019898879 : Int))) || (!(btw sp (0 : Int) (262144 : Int)))))))), (15, (.one (.cel (.bool ((!(btw po (0 : Int) (3019898879 : Int))) || (!(btw sp (0 : Int) (262144 : Int)))))))), (14, (.spec 10 Bool.false (.cel (.bool (!(btw sp (0 : Int) (262144 : Int))))))), (13, (.spec 10 Bool.false (.cel (.bool (btw sp (0 : Int) (262144 : Int)))))), (12, (.spec 10 Bool.false (.cel (.int .i64 sp)))), (11, (.spec 10 Bool.false (.cel (.ptr 1 1)))), (10, (.one (.cel (.bool (!(btw po (0 : Int) (3019898879 : Int))))))), (9, (.one (.cel (.bool (!(btw po (0 : Int) (3019898879 : Int))))))), (8, (.one (.cel (.bool (btw po (0 : Int) (3019898879 : Int)))))), (7, (.one (.cel (.int .i64 po)))), (6, (.one (.cel (.ptr 1 0)))), (4, (.one (.cel (.bool Bool.false)))), (3, (.one (.cel (.ptr 1 0)))), (2, (.one (.cel (.ptr 0 0)))), (0, (.one (.agg [(.int .i64 bi), (.int .i64 bf), (.int .i64 bv), (.int .i64 bt), (.int .i64 bm), (.int .i64 be), (.int .i64 bd)]))), (1, (.one (.agg [(.int .i64 po), (.int .i64 sp), (.int .i64 re), (.int .i64 pr), (.int .i64 fl), (.row 0)])))], [[(.int .i64 bi), (.int .i64 bf), (.int .i64 bv), (.int .i64 bt), (.int .i64 bm), (.int .i64 be), (.int .i64 bd)], [(.int .i64 po), (.int .i64 sp), (.int .i64 re), (.int .i64 pr), (.int .i64 fl), (.row 0)]], [⟨(.ints .i64 l), none⟩], 0⟩
def rgood_L1_T (bi : Int) (bf : Int) (bv : Int) (bt : Int) (bm : Int) (be : Int) (bd : Int) (po : Int) (sp : Int) (re : Int) (pr : Int) (fl : Int) (l : List Int) (i : Int) : Prop := (cnd (decide (i < (((List.length l) : Nat) : Int)))
  (cnd (decide ((0 : Int) ≤ i))
    (cnd (decide (i < (((List.length l) : Nat) : Int)))
      (cnd (!(btw (List.getD l (Int.toNat i) (0 : Int)) (500 : Int) (2000 : Int)))
        (Bool.false = (gB bi bd po sp re pr fl l))
        ((rgood_L1_I bi bf bv bt bm be bd po sp re pr fl l (Go.IntKind.wrap Go.IntKind.i64 (i + (1 : Int)))) ∧ (((rgood_L1_m bi bf bv bt bm be bd po sp re pr fl l (Go.IntKind.wrap Go.IntKind.i64 (i + (1 : Int)))) < (rgood_L1_m bi bf bv bt bm be bd po sp re pr fl l i)) ∧ (((Go.IntKind.wrap Go.IntKind.i64 (i + (1 : Int))) = (Go.IntKind.wrap Go.IntKind.i64 (i + (1 : Int)))) ∧ ((Bool.false = Bool.false) ∧ (True ∧ (((bi = bi) ∧ ((bf = bf) ∧ ((bv = bv) ∧ ((bt = bt) ∧ ((bm = bm) ∧ ((be = be) ∧ (bd = bd))))))) ∧ (((po = po) ∧ ((sp = sp) ∧ ((re = re) ∧ ((pr = pr) ∧ ((fl = fl) ∧ True))))) ∧ ((l = l) ∧ True)))))))))
      False)
    False)
  (Bool.true = (gB bi bd po sp re pr fl l)))
set_option maxRecDepth 100000 in
theorem rgood_L1_tree (bi : Int) (bf : Int) (bv : Int) (bt : Int) (bm : Int) (be : Int) (bd : Int) (po : Int) (sp : Int) (re : Int) (pr : Int) (fl : Int) (l : List Int) (i : Int) : rgood_L1_T bi bf bv bt bm be bd po sp re pr fl l i = ex Try.prog (conOf [rin_e]) (subC (bodyOf Try.f15) [1, 1, 0, 1, 0, 0]) (nextE (rgood_L1_N bi bf bv bt bm be bd po sp re pr fl l i) (kont Try.prog (conOf [rin_e]) (bodyOf Try.f15) [1, 1, 0, 1, 0] (retPost Try.prog Try.f15 1 (rgood_res bi bf bv bt bm be bd po sp re pr fl l)))) (rgood_L1_F bi bf bv bt bm be bd po sp re pr fl l i) := by kernel_rfl
set_option maxRecDepth 100000 in
theorem rgood_L1_round (bi : Int) (bf : Int) (bv : Int) (bt : Int) (bm : Int) (be : Int) (bd : Int) (po : Int) (sp : Int) (re : Int) (pr : Int) (fl : Int) (l : List Int) (i : Int) (p0 : bOk bi bf bv bt bm be bd = true) (hI_L1 : rgood_L1_I bi bf bv bt bm be bd po sp re pr fl l i) : rgood_L1_T bi bf bv bt bm be bd po sp re pr fl l i := by
  obtain ⟨⟨a1, a2, a3⟩, a4, a5⟩ := hI_L1
  unfold rgood_L1_T
  rw [w64 (n := i + 1) (by omega) (by omega)]
  have eq0 : gB bi bd po sp re pr fl l = l.all pV := by unfold gB; rw [a4]; rfl
  rw [eq0]
  change cnd _ (cnd _ (cnd _ (cnd (!(pV (l.getD i.toNat 0))) _ _) _) _) _
  by_cases hl : i < l.length
  · have j1 : decide (0 ≤ i) = true := by simpa using a1
    simp only [hl, decide_true, j1, cnd]
    cases hx : pV (l.getD i.toNat 0) with
    | false => exact (all_take_not (by omega) hx).symm
    | true =>
      refine ⟨⟨⟨by omega, by omega, a3⟩, a4, all_take a1 hl a5 hx⟩, ?_, by simp⟩
      unfold rgood_L1_m
      omega
  · rw [List.take_of_length_le (by omega)] at a5
    simp only [hl, decide_false, cnd]
    exact a5.symm
set_option maxRecDepth 100000 in
theorem rgood_L1_entry1 (bi : Int) (bf : Int) (bv : Int) (bt : Int) (bm : Int) (be : Int) (bd : Int) (po : Int) (sp : Int) (re : Int) (pr : Int) (fl : Int) (l : List Int) : (((rgood_L1_I bi bf bv bt bm be bd po sp re pr fl l (0 : Int)) ∧ (((0 : Int) = (0 : Int)) ∧ ((Bool.false = Bool.false) ∧ (True ∧ (((bi = bi) ∧ ((bf = bf) ∧ ((bv = bv) ∧ ((bt = bt) ∧ ((bm = bm) ∧ ((be = be) ∧ (bd = bd))))))) ∧ (((po = po) ∧ ((sp = sp) ∧ ((re = re) ∧ ((pr = pr) ∧ ((fl = fl) ∧ True))))) ∧ ((l = l) ∧ True)))))))) = rgood_L1_E bi bf bv bt bm be bd po sp re pr fl l (rgood_L1_S1 bi bf bv bt bm be bd po sp re pr fl l) := by kernel_rfl
theorem rgood_L1_1 (bi : Int) (bf : Int) (bv : Int) (bt : Int) (bm : Int) (be : Int) (bd : Int) (po : Int) (sp : Int) (re : Int) (pr : Int) (fl : Int) (l : List Int) (p0 : bOk bi bf bv bt bm be bd = true) (h : ((rgood_L1_I bi bf bv bt bm be bd po sp re pr fl l (0 : Int)) ∧ (((0 : Int) = (0 : Int)) ∧ ((Bool.false = Bool.false) ∧ (True ∧ (((bi = bi) ∧ ((bf = bf) ∧ ((bv = bv) ∧ ((bt = bt) ∧ ((bm = bm) ∧ ((be = be) ∧ (bd = bd))))))) ∧ (((po = po) ∧ ((sp = sp) ∧ ((re = re) ∧ ((pr = pr) ∧ ((fl = fl) ∧ True))))) ∧ ((l = l) ∧ True)))))))) : LoopP (ex Try.prog (conOf [rin_e]) (subC (bodyOf Try.f15) [1, 1, 0, 1, 0, 0])) (kont Try.prog (conOf [rin_e]) (bodyOf Try.f15) [1, 1, 0, 1, 0] (retPost Try.prog Try.f15 1 (rgood_res bi bf bv bt bm be bd po sp re pr fl l))) (rgood_L1_S1 bi bf bv bt bm be bd po sp re pr fl l) := by
  have hE : rgood_L1_E bi bf bv bt bm be bd po sp re pr fl l (rgood_L1_S1 bi bf bv bt bm be bd po sp re pr fl l) := Eq.mp (rgood_L1_entry1 bi bf bv bt bm be bd po sp re pr fl l) h
  unfold rgood_L1_E at hE
  obtain ⟨i, hE⟩ := getI_of hE
  refine loop_of (α := (Int)) (fun xx_ => rgood_L1_F bi bf bv bt bm be bd po sp re pr fl l xx_) (fun xx_ => rgood_L1_I bi bf bv bt bm be bd po sp re pr fl l xx_) (fun xx_ => rgood_L1_m bi bf bv bt bm be bd po sp re pr fl l xx_) (fun xx_ => rgood_L1_N bi bf bv bt bm be bd po sp re pr fl l xx_) (fun xx_ => rgood_L1_T bi bf bv bt bm be bd po sp re pr fl l xx_) (fun xx_ s_ h => ?_) ⟨i, hE⟩ (fun xx_ => rgood_L1_tree bi bf bv bt bm be bd po sp re pr fl l xx_) (fun xx_ hI => rgood_L1_round bi bf bv bt bm be bd po sp re pr fl l xx_ p0 hI)
  unfold rgood_L1_N at h
  obtain ⟨i, h⟩ := getI_of h
  exact ⟨i, h⟩
set_option maxRecDepth 100000 in
theorem rgood_tree (bi : Int) (bf : Int) (bv : Int) (bt : Int) (bm : Int) (be : Int) (bd : Int) (po : Int) (sp : Int) (re : Int) (pr : Int) (fl : Int) (l : List Int) : ((cnd ((((((!(btw po (0 : Int) (3019898879 : Int))) || (!(btw sp (0 : Int) (262144 : Int)))) || (!(btw re (0 : Int) (Go.IntKind.wrap Go.IntKind.i64 (bi - (1 : Int)))))) || (!(btw pr (50 : Int) (1013 : Int)))) || (!(btw fl (0 : Int) (2147483648 : Int)))) || (decide ((Go.IntKind.wrap Go.IntKind.i64 (bd + (1 : Int))) < (((List.length l) : Nat) : Int))))
  (Bool.false = (gB bi bd po sp re pr fl l))
  (LoopP (ex Try.prog (conOf [rin_e]) (subC (bodyOf Try.f15) [1, 1, 0, 1, 0, 0])) (kont Try.prog (conOf [rin_e]) (bodyOf Try.f15) [1, 1, 0, 1, 0] (retPost Try.prog Try.f15 1 (rgood_res bi bf bv bt bm be bd po sp re pr fl l))) (rgood_L1_S1 bi bf bv bt bm be bd po sp re pr fl l)))) = EXD Try.prog (conOf [rin_e]) Try.f15 [.agg [.int .i64 bi, .int .i64 bf, .int .i64 bv, .int .i64 bt, .int .i64 bm, .int .i64 be, .int .i64 bd], .agg [.int .i64 po, .int .i64 sp, .int .i64 re, .int .i64 pr, .int .i64 fl, .row 0]] [.ints .i64 l] [] (rgood_res bi bf bv bt bm be bd po sp re pr fl l) := by kernel_rfl
theorem rgood_holds (bi : Int) (bf : Int) (bv : Int) (bt : Int) (bm : Int) (be : Int) (bd : Int) (po : Int) (sp : Int) (re : Int) (pr : Int) (fl : Int) (l : List Int) (p0 : bOk bi bf bv bt bm be bd = true) : (cnd ((((((!(btw po (0 : Int) (3019898879 : Int))) || (!(btw sp (0 : Int) (262144 : Int)))) || (!(btw re (0 : Int) (Go.IntKind.wrap Go.IntKind.i64 (bi - (1 : Int)))))) || (!(btw pr (50 : Int) (1013 : Int)))) || (!(btw fl (0 : Int) (2147483648 : Int)))) || (decide ((Go.IntKind.wrap Go.IntKind.i64 (bd + (1 : Int))) < (((List.length l) : Nat) : Int))))
  (Bool.false = (gB bi bd po sp re pr fl l))
  (LoopP (ex Try.prog (conOf [rin_e]) (subC (bodyOf Try.f15) [1, 1, 0, 1, 0, 0])) (kont Try.prog (conOf [rin_e]) (bodyOf Try.f15) [1, 1, 0, 1, 0] (retPost Try.prog Try.f15 1 (rgood_res bi bf bv bt bm be bd po sp re pr fl l))) (rgood_L1_S1 bi bf bv bt bm be bd po sp re pr fl l))) := by
  have hb2 := bOk_iff.1 p0
  rw [w64 (n := bi - 1) (by omega) (by omega), w64 (n := bd + 1) (by omega) (by omega)]
  have e : ((((((!btw po 0 3019898879) || (!btw sp 0 262144)) || (!btw re 0 (bi - 1))) || (!btw pr 50 1013)) || (!btw fl 0 2147483648)) || decide (bd + 1 < (l.length : Int))) = !gH bi bd po sp re pr fl l.length := by
    have : decide (bd + 1 < (l.length : Int)) = !decide ((l.length : Int) ≤ bd + 1) := by by_cases h : (l.length : Int) ≤ bd + 1 <;> simp [h] <;> omega
    rw [this]
    simp only [gH, Bool.not_and, Bool.not_true, Bool.false_or]
  rw [e]
  cases hg : gH bi bd po sp re pr fl l.length with
  | false => simp [cnd, gB, hg]
  | true =>
    simp only [Bool.not_true, cnd]
    have := (gH_iff.1 hg).2.2.2.2.2
    exact rgood_L1_1 bi bf bv bt bm be bd po sp re pr fl l p0 ⟨⟨⟨by omega, by omega, by omega⟩, hg, by simp⟩, by simp⟩
set_option maxHeartbeats 2000000 in
theorem rgood_ok : SoundEnt Try.prog rgood_e := by
  refine ent_of_ex (Γ := (conOf [rin_e])) (conOf_sound (scons rin_ok snil)) (by kernel_rfl) Try.func15 (by kernel_rfl) (by kernel_rfl) (fun args rows caps res h ho => ?_)
  change rgood_go args rows caps = some res at h
  unfold rgood_go at h
  split at h
  · simp only [Option.some.injEq] at h
    subst h
    rename_i q0_ q1_ q2_ q3_ q4_ q5_ q6_ q7_ q8_ q9_ q10_ q11_ q12_
    obtain ⟨p0, _⟩ := ho
    exact EX.of (rgood_tree q0_ q1_ q2_ q3_ q4_ q5_ q6_ q7_ q8_ q9_ q10_ q11_ q12_) (rgood_holds q0_ q1_ q2_ q3_ q4_ q5_ q6_ q7_ q8_ q9_ q10_ q11_ q12_ p0)
  · cases h
def rfloor27_res (a : Int) (b : Int) : CRes := ⟨[inBig a, decide (1 ≤ b), inBig b], .one (.cel (.int .i64 (a / b))), []⟩
def rfloor27_go : List TV → List RowA → List (List CV) → Option CRes := fun args rows caps =>
  match args, rows, caps with
  | [.cel (.int .i64 a), .cel (.int .i64 b)], [], [] => some (rfloor27_res a b)
  | _, _, _ => none
def rfloor27_e : Ent := ⟨33, [], rfloor27_go⟩
set_option maxRecDepth 100000 in
theorem rfloor27_tree (a : Int) (b : Int) : ((cnd (decide (b ≠ (0 : Int)))
  (cnd (decide (b ≠ (0 : Int)))
    (cnd (decide ((Int.tmod a b) < (0 : Int)))
      ((Go.IntKind.wrap Go.IntKind.i64 ((Go.IntKind.wrap Go.IntKind.i64 (Int.tdiv a b)) - (1 : Int))) = (a / b))
      ((Go.IntKind.wrap Go.IntKind.i64 (Int.tdiv a b)) = (a / b)))
    False)
  False)) = EXD Try.prog (conOf []) Try.f33 [.cel (.int .i64 a), .cel (.int .i64 b)] [] [] (rfloor27_res a b) := by kernel_rfl
theorem rfloor27_holds (a : Int) (b : Int) (p0 : inBig a = true) (p1 : decide (1 ≤ b) = true) (p2 : inBig b = true) : (cnd (decide (b ≠ (0 : Int)))
  (cnd (decide (b ≠ (0 : Int)))
    (cnd (decide ((Int.tmod a b) < (0 : Int)))
      ((Go.IntKind.wrap Go.IntKind.i64 ((Go.IntKind.wrap Go.IntKind.i64 (Int.tdiv a b)) - (1 : Int))) = (a / b))
      ((Go.IntKind.wrap Go.IntKind.i64 (Int.tdiv a b)) = (a / b)))
    False)
  False) := by
  rw [inBig_iff] at p0 p2
  simp only [decide_eq_true_eq] at p1
  have j : decide (b ≠ 0) = true := by simp; omega
  simp only [j, cnd]
  have hm := Int.emod_nonneg a (b := b) (by omega)
  have hm2 := Int.emod_lt_of_pos a (b := b) (by omega)
  have hd : b ∣ a ↔ a % b = 0 := Int.dvd_iff_emod_eq_zero
  have hn : ((b.natAbs : Nat) : Int) = b := by omega
  have hsg : b.sign = 1 := Int.sign_eq_one_of_pos (by omega)
  have hq : -4611686018427387904 ≤ a / b ∧ a / b ≤ 4611686018427387904 := quo_s (by omega) (by omega) p1 (by omega)
  rw [Int.tdiv_eq_ediv, Int.tmod_eq_emod, hsg]
  by_cases h : 0 ≤ a ∨ b ∣ a
  · rw [if_pos h, if_pos h]
    rw [hd] at h
    have j2 : decide (a % b - ((0 : Nat) : Int) < 0) = false := by simp; omega
    simp only [j2]
    rw [w64 (by omega) (by omega)]
    omega
  · rw [if_neg h, if_neg h]
    rw [hd] at h
    have j2 : decide (a % b - ((b.natAbs : Nat) : Int) < 0) = true := by rw [decide_eq_true_eq]; omega
    simp only [j2]
    rw [w64 (n := a / b + 1) (by omega) (by omega), w64 (by omega) (by omega)]
    omega
set_option maxHeartbeats 2000000 in
theorem rfloor27_ok : SoundEnt Try.prog rfloor27_e := by
  refine ent_of_ex (Γ := (conOf [])) (conOf_sound snil) (by kernel_rfl) Try.func33 (by kernel_rfl) (by kernel_rfl) (fun args rows caps res h ho => ?_)
  change rfloor27_go args rows caps = some res at h
  unfold rfloor27_go at h
  split at h
  · simp only [Option.some.injEq] at h
    subst h
    rename_i q0_ q1_
    obtain ⟨p0, p1, p2, _⟩ := ho
    exact EX.of (rfloor27_tree q0_ q1_) (rfloor27_holds q0_ q1_ p0 p1 p2)
  · cases h
def rlimit_res (x : Int) (lo : Int) (hi : Int) : CRes := ⟨[decide (lo ≤ hi)], .one (.cel (.int .i64 (min (max x lo) hi))), []⟩
def rlimit_go : List TV → List RowA → List (List CV) → Option CRes := fun args rows caps =>
  match args, rows, caps with
  | [.cel (.int .i64 x), .cel (.int .i64 lo), .cel (.int .i64 hi)], [], [] => some (rlimit_res x lo hi)
  | _, _, _ => none
def rlimit_e : Ent := ⟨34, [], rlimit_go⟩
set_option maxRecDepth 100000 in
theorem rlimit_tree (x : Int) (lo : Int) (hi : Int) : ((cnd (decide (x < lo))
  (lo = (Min.min (Max.max x lo) hi))
  (cnd (decide (hi < x))
    (hi = (Min.min (Max.max x lo) hi))
    (x = (Min.min (Max.max x lo) hi))))) = EXD Try.prog (conOf []) Try.f34 [.cel (.int .i64 x), .cel (.int .i64 lo), .cel (.int .i64 hi)] [] [] (rlimit_res x lo hi) := by kernel_rfl
theorem rlimit_holds (x : Int) (lo : Int) (hi : Int) (p0 : decide (lo ≤ hi) = true) : (cnd (decide (x < lo))
  (lo = (Min.min (Max.max x lo) hi))
  (cnd (decide (hi < x))
    (hi = (Min.min (Max.max x lo) hi))
    (x = (Min.min (Max.max x lo) hi)))) := by
  simp only [decide_eq_true_eq] at p0
  (repeat' (first | with_reducible rfl | trivial | (refine cnd_i (fun h => ?_) (fun h => ?_)) | (refine And.intro ?_ ?_) | (intro h)))
  all_goals (simp only [Bool.and_eq_true, Bool.or_eq_true, Bool.not_eq_true', Bool.and_eq_false_iff, Bool.or_eq_false_iff, Bool.not_eq_false', decide_eq_true_eq, decide_eq_false_iff_not, Bool.not_eq_true, Bool.not_eq_false, ne_eq, gt_iff_lt, ge_iff_le, Decidable.not_not] at *)
  all_goals omega
set_option maxHeartbeats 2000000 in
theorem rlimit_ok : SoundEnt Try.prog rlimit_e := by
  refine ent_of_ex (Γ := (conOf [])) (conOf_sound snil) (by kernel_rfl) Try.func34 (by kernel_rfl) (by kernel_rfl) (fun args rows caps res h ho => ?_)
  change rlimit_go args rows caps = some res at h
  unfold rlimit_go at h
  split at h
  · simp only [Option.some.injEq] at h
    subst h
    rename_i q0_ q1_ q2_
    obtain ⟨p0, _⟩ := ho
    exact EX.of (rlimit_tree q0_ q1_ q2_) (rlimit_holds q0_ q1_ q2_ p0)
  · cases h
def rstep_res (bi : Int) (bf : Int) (bv : Int) (bt : Int) (bm : Int) (be : Int) (bd : Int) (po : Int) (sp : Int) (re : Int) (pr : Int) (fl : Int) (l : List Int) (t : Int) (tq : Int) (ld : Int) (tk : Int) : CRes := ⟨[bOk bi bf bv bt bm be bd, gB bi bd po sp re pr fl l, aOk t tq ld tk], .one (.agg [.int .i64 (xPo po sp tk), .int .i64 (xSp bi bf sp re tq ld tk), .int .i64 (xRe bi bf sp re tq ld tk), .int .i64 (xPr bv bt sp pr t tk), .int .i64 (fl), .row 1]), [.ints .i64 (l)]⟩
def rstep_go : List TV → List RowA → List (List CV) → Option CRes := fun args rows caps =>
  match args, rows, caps with
  | [.agg [.int .i64 bi, .int .i64 bf, .int .i64 bv, .int .i64 bt, .int .i64 bm, .int .i64 be, .int .i64 bd], .agg [.int .i64 po, .int .i64 sp, .int .i64 re, .int .i64 pr, .int .i64 fl, .row 0], .cel (.int .i64 t), .cel (.int .i64 tq), .cel (.int .i64 ld), .cel (.int .i64 tk)], [.ints .i64 l], [] => some (rstep_res bi bf bv bt bm be bd po sp re pr fl l t tq ld tk)
  | _, _, _ => none
def rstep_e : Ent := ⟨17, [.ints .i64 []], rstep_go⟩
set_option maxRecDepth 100000 in
theorem rstep_tree (bi : Int) (bf : Int) (bv : Int) (bt : Int) (bm : Int) (be : Int) (bd : Int) (po : Int) (sp : Int) (re : Int) (pr : Int) (fl : Int) (l : List Int) (t : Int) (tq : Int) (ld : Int) (tk : Int) : ((cnd (inBig (Go.IntKind.wrap Go.IntKind.i64 ((Go.IntKind.wrap Go.IntKind.i64 ((Go.IntKind.wrap Go.IntKind.i64 ((Go.IntKind.wrap Go.IntKind.i64 (tq - ld)) - (Go.IntKind.wrap Go.IntKind.i64 (Int.tdiv (Go.IntKind.wrap Go.IntKind.i64 (bf * sp)) (65536 : Int))))) * tk)) + re)))
  (cnd (decide ((1 : Int) ≤ bi))
    (cnd (inBig bi)
      (cnd ((decide ((Go.IntKind.wrap Go.IntKind.i64 (sp + ((Go.IntKind.wrap Go.IntKind.i64 ((Go.IntKind.wrap Go.IntKind.i64 ((Go.IntKind.wrap Go.IntKind.i64 ((Go.IntKind.wrap Go.IntKind.i64 (tq - ld)) - (Go.IntKind.wrap Go.IntKind.i64 (Int.tdiv (Go.IntKind.wrap Go.IntKind.i64 (bf * sp)) (65536 : Int))))) * tk)) + re)) / bi))) < (0 : Int))) || (decide ((262144 : Int) < (Go.IntKind.wrap Go.IntKind.i64 (sp + ((Go.IntKind.wrap Go.IntKind.i64 ((Go.IntKind.wrap Go.IntKind.i64 ((Go.IntKind.wrap Go.IntKind.i64 ((Go.IntKind.wrap Go.IntKind.i64 (tq - ld)) - (Go.IntKind.wrap Go.IntKind.i64 (Int.tdiv (Go.IntKind.wrap Go.IntKind.i64 (bf * sp)) (65536 : Int))))) * tk)) + re)) / bi))))))
        (cnd (inBig (Go.IntKind.wrap Go.IntKind.i64 ((Go.IntKind.wrap Go.IntKind.i64 ((Go.IntKind.wrap Go.IntKind.i64 (Int.tdiv (Go.IntKind.wrap Go.IntKind.i64 ((Go.IntKind.wrap Go.IntKind.i64 (bt * t)) * (Go.IntKind.wrap Go.IntKind.i64 ((1013 : Int) - pr)))) (1000 : Int))) - (Go.IntKind.wrap Go.IntKind.i64 (Int.tdiv (Go.IntKind.wrap Go.IntKind.i64 (sp * pr)) (1024 : Int))))) * tk)))
          (cnd (decide ((1 : Int) ≤ (Go.IntKind.wrap Go.IntKind.i64 ((65536 : Int) * bv))))
            (cnd (inBig (Go.IntKind.wrap Go.IntKind.i64 ((65536 : Int) * bv)))
              ((((Int.tmod (Go.IntKind.wrap Go.IntKind.i64 (po + (Go.IntKind.wrap Go.IntKind.i64 (sp * tk)))) (3019898880 : Int)) = (xPo po sp tk)) ∧ (((Min.min (Max.max (Go.IntKind.wrap Go.IntKind.i64 (sp + ((Go.IntKind.wrap Go.IntKind.i64 ((Go.IntKind.wrap Go.IntKind.i64 ((Go.IntKind.wrap Go.IntKind.i64 ((Go.IntKind.wrap Go.IntKind.i64 (tq - ld)) - (Go.IntKind.wrap Go.IntKind.i64 (Int.tdiv (Go.IntKind.wrap Go.IntKind.i64 (bf * sp)) (65536 : Int))))) * tk)) + re)) / bi))) (0 : Int)) (262144 : Int)) = (xSp bi bf sp re tq ld tk)) ∧ (((0 : Int) = (xRe bi bf sp re tq ld tk)) ∧ (((Min.min (Max.max (Go.IntKind.wrap Go.IntKind.i64 (pr + ((Go.IntKind.wrap Go.IntKind.i64 ((Go.IntKind.wrap Go.IntKind.i64 ((Go.IntKind.wrap Go.IntKind.i64 (Int.tdiv (Go.IntKind.wrap Go.IntKind.i64 ((Go.IntKind.wrap Go.IntKind.i64 (bt * t)) * (Go.IntKind.wrap Go.IntKind.i64 ((1013 : Int) - pr)))) (1000 : Int))) - (Go.IntKind.wrap Go.IntKind.i64 (Int.tdiv (Go.IntKind.wrap Go.IntKind.i64 (sp * pr)) (1024 : Int))))) * tk)) / (Go.IntKind.wrap Go.IntKind.i64 ((65536 : Int) * bv))))) (50 : Int)) (1013 : Int)) = (xPr bv bt sp pr t tk)) ∧ ((fl = fl) ∧ True))))) ∧ ((l = l) ∧ True))
              False)
            False)
          False)
        (cnd (inBig (Go.IntKind.wrap Go.IntKind.i64 ((Go.IntKind.wrap Go.IntKind.i64 ((Go.IntKind.wrap Go.IntKind.i64 (Int.tdiv (Go.IntKind.wrap Go.IntKind.i64 ((Go.IntKind.wrap Go.IntKind.i64 (bt * t)) * (Go.IntKind.wrap Go.IntKind.i64 ((1013 : Int) - pr)))) (1000 : Int))) - (Go.IntKind.wrap Go.IntKind.i64 (Int.tdiv (Go.IntKind.wrap Go.IntKind.i64 (sp * pr)) (1024 : Int))))) * tk)))
          (cnd (decide ((1 : Int) ≤ (Go.IntKind.wrap Go.IntKind.i64 ((65536 : Int) * bv))))
            (cnd (inBig (Go.IntKind.wrap Go.IntKind.i64 ((65536 : Int) * bv)))
              ((((Int.tmod (Go.IntKind.wrap Go.IntKind.i64 (po + (Go.IntKind.wrap Go.IntKind.i64 (sp * tk)))) (3019898880 : Int)) = (xPo po sp tk)) ∧ (((Go.IntKind.wrap Go.IntKind.i64 (sp + ((Go.IntKind.wrap Go.IntKind.i64 ((Go.IntKind.wrap Go.IntKind.i64 ((Go.IntKind.wrap Go.IntKind.i64 ((Go.IntKind.wrap Go.IntKind.i64 (tq - ld)) - (Go.IntKind.wrap Go.IntKind.i64 (Int.tdiv (Go.IntKind.wrap Go.IntKind.i64 (bf * sp)) (65536 : Int))))) * tk)) + re)) / bi))) = (xSp bi bf sp re tq ld tk)) ∧ (((Go.IntKind.wrap Go.IntKind.i64 ((Go.IntKind.wrap Go.IntKind.i64 ((Go.IntKind.wrap Go.IntKind.i64 ((Go.IntKind.wrap Go.IntKind.i64 ((Go.IntKind.wrap Go.IntKind.i64 (tq - ld)) - (Go.IntKind.wrap Go.IntKind.i64 (Int.tdiv (Go.IntKind.wrap Go.IntKind.i64 (bf * sp)) (65536 : Int))))) * tk)) + re)) - (Go.IntKind.wrap Go.IntKind.i64 (((Go.IntKind.wrap Go.IntKind.i64 ((Go.IntKind.wrap Go.IntKind.i64 ((Go.IntKind.wrap Go.IntKind.i64 ((Go.IntKind.wrap Go.IntKind.i64 (tq - ld)) - (Go.IntKind.wrap Go.IntKind.i64 (Int.tdiv (Go.IntKind.wrap Go.IntKind.i64 (bf * sp)) (65536 : Int))))) * tk)) + re)) / bi) * bi)))) = (xRe bi bf sp re tq ld tk)) ∧ (((Min.min (Max.max (Go.IntKind.wrap Go.IntKind.i64 (pr + ((Go.IntKind.wrap Go.IntKind.i64 ((Go.IntKind.wrap Go.IntKind.i64 ((Go.IntKind.wrap Go.IntKind.i64 (Int.tdiv (Go.IntKind.wrap Go.IntKind.i64 ((Go.IntKind.wrap Go.IntKind.i64 (bt * t)) * (Go.IntKind.wrap Go.IntKind.i64 ((1013 : Int) - pr)))) (1000 : Int))) - (Go.IntKind.wrap Go.IntKind.i64 (Int.tdiv (Go.IntKind.wrap Go.IntKind.i64 (sp * pr)) (1024 : Int))))) * tk)) / (Go.IntKind.wrap Go.IntKind.i64 ((65536 : Int) * bv))))) (50 : Int)) (1013 : Int)) = (xPr bv bt sp pr t tk)) ∧ ((fl = fl) ∧ True))))) ∧ ((l = l) ∧ True))
              False)
            False)
          False))
      False)
    False)
  False)) = EXD Try.prog (conOf [rfloor27_e, rlimit_e]) Try.f17 [.agg [.int .i64 bi, .int .i64 bf, .int .i64 bv, .int .i64 bt, .int .i64 bm, .int .i64 be, .int .i64 bd], .agg [.int .i64 po, .int .i64 sp, .int .i64 re, .int .i64 pr, .int .i64 fl, .row 0], .cel (.int .i64 t), .cel (.int .i64 tq), .cel (.int .i64 ld), .cel (.int .i64 tk)] [.ints .i64 l] [] (rstep_res bi bf bv bt bm be bd po sp re pr fl l t tq ld tk) := by kernel_rfl
set_option maxHeartbeats 1000000 in
theorem rstep_holds (bi : Int) (bf : Int) (bv : Int) (bt : Int) (bm : Int) (be : Int) (bd : Int) (po : Int) (sp : Int) (re : Int) (pr : Int) (fl : Int) (l : List Int) (t : Int) (tq : Int) (ld : Int) (tk : Int) (p0 : bOk bi bf bv bt bm be bd = true) (p1 : gB bi bd po sp re pr fl l = true) (p2 : aOk t tq ld tk = true) : (cnd (inBig (Go.IntKind.wrap Go.IntKind.i64 ((Go.IntKind.wrap Go.IntKind.i64 ((Go.IntKind.wrap Go.IntKind.i64 ((Go.IntKind.wrap Go.IntKind.i64 (tq - ld)) - (Go.IntKind.wrap Go.IntKind.i64 (Int.tdiv (Go.IntKind.wrap Go.IntKind.i64 (bf * sp)) (65536 : Int))))) * tk)) + re)))
  (cnd (decide ((1 : Int) ≤ bi))
    (cnd (inBig bi)
      (cnd ((decide ((Go.IntKind.wrap Go.IntKind.i64 (sp + ((Go.IntKind.wrap Go.IntKind.i64 ((Go.IntKind.wrap Go.IntKind.i64 ((Go.IntKind.wrap Go.IntKind.i64 ((Go.IntKind.wrap Go.IntKind.i64 (tq - ld)) - (Go.IntKind.wrap Go.IntKind.i64 (Int.tdiv (Go.IntKind.wrap Go.IntKind.i64 (bf * sp)) (65536 : Int))))) * tk)) + re)) / bi))) < (0 : Int))) || (decide ((262144 : Int) < (Go.IntKind.wrap Go.IntKind.i64 (sp + ((Go.IntKind.wrap Go.IntKind.i64 ((Go.IntKind.wrap Go.IntKind.i64 ((Go.IntKind.wrap Go.IntKind.i64 ((Go.IntKind.wrap Go.IntKind.i64 (tq - ld)) - (Go.IntKind.wrap Go.IntKind.i64 (Int.tdiv (Go.IntKind.wrap Go.IntKind.i64 (bf * sp)) (65536 : Int))))) * tk)) + re)) / bi))))))
        (cnd (inBig (Go.IntKind.wrap Go.IntKind.i64 ((Go.IntKind.wrap Go.IntKind.i64 ((Go.IntKind.wrap Go.IntKind.i64 (Int.tdiv (Go.IntKind.wrap Go.IntKind.i64 ((Go.IntKind.wrap Go.IntKind.i64 (bt * t)) * (Go.IntKind.wrap Go.IntKind.i64 ((1013 : Int) - pr)))) (1000 : Int))) - (Go.IntKind.wrap Go.IntKind.i64 (Int.tdiv (Go.IntKind.wrap Go.IntKind.i64 (sp * pr)) (1024 : Int))))) * tk)))
          (cnd (decide ((1 : Int) ≤ (Go.IntKind.wrap Go.IntKind.i64 ((65536 : Int) * bv))))
            (cnd (inBig (Go.IntKind.wrap Go.IntKind.i64 ((65536 : Int) * bv)))
              ((((Int.tmod (Go.IntKind.wrap Go.IntKind.i64 (po + (Go.IntKind.wrap Go.IntKind.i64 (sp * tk)))) (3019898880 : Int)) = (xPo po sp tk)) ∧ (((Min.min (Max.max (Go.IntKind.wrap Go.IntKind.i64 (sp + ((Go.IntKind.wrap Go.IntKind.i64 ((Go.IntKind.wrap Go.IntKind.i64 ((Go.IntKind.wrap Go.IntKind.i64 ((Go.IntKind.wrap Go.IntKind.i64 (tq - ld)) - (Go.IntKind.wrap Go.IntKind.i64 (Int.tdiv (Go.IntKind.wrap Go.IntKind.i64 (bf * sp)) (65536 : Int))))) * tk)) + re)) / bi))) (0 : Int)) (262144 : Int)) = (xSp bi bf sp re tq ld tk)) ∧ (((0 : Int) = (xRe bi bf sp re tq ld tk)) ∧ (((Min.min (Max.max (Go.IntKind.wrap Go.IntKind.i64 (pr + ((Go.IntKind.wrap Go.IntKind.i64 ((Go.IntKind.wrap Go.IntKind.i64 ((Go.IntKind.wrap Go.IntKind.i64 (Int.tdiv (Go.IntKind.wrap Go.IntKind.i64 ((Go.IntKind.wrap Go.IntKind.i64 (bt * t)) * (Go.IntKind.wrap Go.IntKind.i64 ((1013 : Int) - pr)))) (1000 : Int))) - (Go.IntKind.wrap Go.IntKind.i64 (Int.tdiv (Go.IntKind.wrap Go.IntKind.i64 (sp * pr)) (1024 : Int))))) * tk)) / (Go.IntKind.wrap Go.IntKind.i64 ((65536 : Int) * bv))))) (50 : Int)) (1013 : Int)) = (xPr bv bt sp pr t tk)) ∧ ((fl = fl) ∧ True))))) ∧ ((l = l) ∧ True))
              False)
            False)
          False)
        (cnd (inBig (Go.IntKind.wrap Go.IntKind.i64 ((Go.IntKind.wrap Go.IntKind.i64 ((Go.IntKind.wrap Go.IntKind.i64 (Int.tdiv (Go.IntKind.wrap Go.IntKind.i64 ((Go.IntKind.wrap Go.IntKind.i64 (bt * t)) * (Go.IntKind.wrap Go.IntKind.i64 ((1013 : Int) - pr)))) (1000 : Int))) - (Go.IntKind.wrap Go.IntKind.i64 (Int.tdiv (Go.IntKind.wrap Go.IntKind.i64 (sp * pr)) (1024 : Int))))) * tk)))
          (cnd (decide ((1 : Int) ≤ (Go.IntKind.wrap Go.IntKind.i64 ((65536 : Int) * bv))))
            (cnd (inBig (Go.IntKind.wrap Go.IntKind.i64 ((65536 : Int) * bv)))
              ((((Int.tmod (Go.IntKind.wrap Go.IntKind.i64 (po + (Go.IntKind.wrap Go.IntKind.i64 (sp * tk)))) (3019898880 : Int)) = (xPo po sp tk)) ∧ (((Go.IntKind.wrap Go.IntKind.i64 (sp + ((Go.IntKind.wrap Go.IntKind.i64 ((Go.IntKind.wrap Go.IntKind.i64 ((Go.IntKind.wrap Go.IntKind.i64 ((Go.IntKind.wrap Go.IntKind.i64 (tq - ld)) - (Go.IntKind.wrap Go.IntKind.i64 (Int.tdiv (Go.IntKind.wrap Go.IntKind.i64 (bf * sp)) (65536 : Int))))) * tk)) + re)) / bi))) = (xSp bi bf sp re tq ld tk)) ∧ (((Go.IntKind.wrap Go.IntKind.i64 ((Go.IntKind.wrap Go.IntKind.i64 ((Go.IntKind.wrap Go.IntKind.i64 ((Go.IntKind.wrap Go.IntKind.i64 ((Go.IntKind.wrap Go.IntKind.i64 (tq - ld)) - (Go.IntKind.wrap Go.IntKind.i64 (Int.tdiv (Go.IntKind.wrap Go.IntKind.i64 (bf * sp)) (65536 : Int))))) * tk)) + re)) - (Go.IntKind.wrap Go.IntKind.i64 (((Go.IntKind.wrap Go.IntKind.i64 ((Go.IntKind.wrap Go.IntKind.i64 ((Go.IntKind.wrap Go.IntKind.i64 ((Go.IntKind.wrap Go.IntKind.i64 (tq - ld)) - (Go.IntKind.wrap Go.IntKind.i64 (Int.tdiv (Go.IntKind.wrap Go.IntKind.i64 (bf * sp)) (65536 : Int))))) * tk)) + re)) / bi) * bi)))) = (xRe bi bf sp re tq ld tk)) ∧ (((Min.min (Max.max (Go.IntKind.wrap Go.IntKind.i64 (pr + ((Go.IntKind.wrap Go.IntKind.i64 ((Go.IntKind.wrap Go.IntKind.i64 ((Go.IntKind.wrap Go.IntKind.i64 (Int.tdiv (Go.IntKind.wrap Go.IntKind.i64 ((Go.IntKind.wrap Go.IntKind.i64 (bt * t)) * (Go.IntKind.wrap Go.IntKind.i64 ((1013 : Int) - pr)))) (1000 : Int))) - (Go.IntKind.wrap Go.IntKind.i64 (Int.tdiv (Go.IntKind.wrap Go.IntKind.i64 (sp * pr)) (1024 : Int))))) * tk)) / (Go.IntKind.wrap Go.IntKind.i64 ((65536 : Int) * bv))))) (50 : Int)) (1013 : Int)) = (xPr bv bt sp pr t tk)) ∧ ((fl = fl) ∧ True))))) ∧ ((l = l) ∧ True))
              False)
            False)
          False))
      False)
    False)
  False) := by
  have hg := p1
  have hgH : gH bi bd po sp re pr fl l.length = true := by
    unfold gB at hg
    simp only [Bool.and_eq_true] at hg
    exact hg.1
  have hb2 := bOk_iff.1 p0
  have hg2 := gH_iff.1 hgH
  have ha2 := aOk_iff.1 p2
  have m1 := mulN (a := bf) (b := sp) (A := 65536) (B := 262144) (by omega) (by omega) (by omega) (by omega)
  have m2 := quo_pos m1.1 (show (1 : Int) ≤ 65536 by omega)
  have m3 : bf * sp / 65536 ≤ 262144 := by omega
  have m4 := mulS (x := tq - ld - bf * sp / 65536) (k := tk) (A := 300000) (B := 10000) (by omega) (by omega) (by omega) (by omega) (by omega)
  have m5 := mulN (a := sp) (b := tk) (A := 262144) (B := 10000) (by omega) (by omega) (by omega) (by omega)
  have m6 := mulN (a := bt) (b := t) (A := 65536) (B := 1000) (by omega) (by omega) (by omega) (by omega)
  have m7 := mulN (a := bt * t) (b := 1013 - pr) (A := 65536000) (B := 1000) (by omega) (by omega) (by omega) (by omega)
  have m8 := quo_pos m7.1 (show (1 : Int) ≤ 1000 by omega)
  have m9 := mulN (a := sp) (b := pr) (A := 262144) (B := 1013) (by omega) (by omega) (by omega) (by omega)
  have m10 := quo_pos m9.1 (show (1 : Int) ≤ 1024 by omega)
  have m11 := mulS (x := bt * t * (1013 - pr) / 1000 - sp * pr / 1024) (k := tk) (A := 1000000000) (B := 10000) (by omega) (by omega) (by omega) (by omega) (by omega)
  have q1 := quo_s (a := nS bf sp re tq ld tk) (b := bi) (A := 4000000000) (by unfold nS; omega) (by unfold nS; omega) (by omega) (by omega)
  have q2 := quo_s (a := (bt * t * (1013 - pr) / 1000 - sp * pr / 1024) * tk) (b := 65536 * bv) (A := 10000000000000) (by omega) (by omega) (by omega) (by omega)
  rw [w64 (n := tq - ld) (by omega) (by omega), w64 (n := bf * sp) (by omega) (by omega), tdiv_pos m1.1, w64 (n := bf * sp / 65536) (by omega) (by omega), w64 (n := tq - ld - bf * sp / 65536) (by omega) (by omega), w64 (n := (tq - ld - bf * sp / 65536) * tk) (by omega) (by omega), w64 (n := (tq - ld - bf * sp / 65536) * tk + re) (by omega) (by omega)]
  rw [show (tq - ld - bf * sp / 65536) * tk + re = nS bf sp re tq ld tk from rfl, w64 (n := sp + nS bf sp re tq ld tk / bi) (by omega) (by omega), show sp + nS bf sp re tq ld tk / bi = rS bi bf sp re tq ld tk from rfl]
  have nb : -4000000000 ≤ nS bf sp re tq ld tk ∧ nS bf sp re tq ld tk ≤ 4000000000 := by unfold nS; omega
  have r1 := Int.emod_add_mul_ediv (nS bf sp re tq ld tk) bi
  have r2 := Int.emod_nonneg (nS bf sp re tq ld tk) (show bi ≠ 0 by omega)
  have r3 := Int.emod_lt_of_pos (nS bf sp re tq ld tk) (show 0 < bi by omega)
  have r4 : nS bf sp re tq ld tk / bi * bi = nS bf sp re tq ld tk - nS bf sp re tq ld tk % bi := by rw [Int.mul_comm]; omega
  rw [r4, w64 (n := nS bf sp re tq ld tk - nS bf sp re tq ld tk % bi) (by omega) (by omega), show nS bf sp re tq ld tk - (nS bf sp re tq ld tk - nS bf sp re tq ld tk % bi) = nS bf sp re tq ld tk % bi by omega, w64 (n := nS bf sp re tq ld tk % bi) (by omega) (by omega)]
  rw [w64 (n := bt * t) (by omega) (by omega), w64 (n := 1013 - pr) (by omega) (by omega), w64 (n := bt * t * (1013 - pr)) (by omega) (by omega), tdiv_pos m7.1, w64 (n := bt * t * (1013 - pr) / 1000) (by omega) (by omega), w64 (n := sp * pr) (by omega) (by omega), tdiv_pos m9.1, w64 (n := sp * pr / 1024) (by omega) (by omega), w64 (n := bt * t * (1013 - pr) / 1000 - sp * pr / 1024) (by omega) (by omega), w64 (n := (bt * t * (1013 - pr) / 1000 - sp * pr / 1024) * tk) (by omega) (by omega), w64 (n := 65536 * bv) (by omega) (by omega), w64 (n := pr + ((bt * t * (1013 - pr) / 1000 - sp * pr / 1024) * tk) / (65536 * bv)) (by omega) (by omega), w64 (n := sp * tk) (by omega) (by omega), w64 (n := po + sp * tk) (by omega) (by omega), tmod_pos (by omega : 0 ≤ po + sp * tk)]
  have j2 : inBig (nS bf sp re tq ld tk) = true := inBig_iff.2 (by omega)
  have j3 : decide (1 ≤ bi) = true := by simp; omega
  have j4 : inBig bi = true := inBig_iff.2 (by omega)
  have j7 : inBig ((bt * t * (1013 - pr) / 1000 - sp * pr / 1024) * tk) = true := inBig_iff.2 (by omega)
  have j8 : decide (1 ≤ 65536 * bv) = true := by simp; omega
  have j9 : inBig (65536 * bv) = true := inBig_iff.2 (by omega)
  simp only [j2, j3, j4, j7, j8, j9, cnd]
  by_cases hl : rS bi bf sp re tq ld tk < 0 ∨ 262144 < rS bi bf sp re tq ld tk
  · have j10 : (decide (rS bi bf sp re tq ld tk < 0) || decide (262144 < rS bi bf sp re tq ld tk)) = true := by simpa using hl
    simp only [j10]
    simp [xPo, xSp, xRe, xPr, dPr, hl]
  · have j10 : (decide (rS bi bf sp re tq ld tk < 0) || decide (262144 < rS bi bf sp re tq ld tk)) = false := by simp; omega
    simp only [j10]
    have e : xSp bi bf sp re tq ld tk = rS bi bf sp re tq ld tk := by unfold xSp; omega
    simp [xPo, e, xRe, xPr, dPr, hl]
set_option maxHeartbeats 2000000 in
theorem rstep_ok : SoundEnt Try.prog rstep_e := by
  refine ent_of_ex (Γ := (conOf [rfloor27_e, rlimit_e])) (conOf_sound (scons rfloor27_ok (scons rlimit_ok snil))) (by kernel_rfl) Try.func17 (by kernel_rfl) (by kernel_rfl) (fun args rows caps res h ho => ?_)
  change rstep_go args rows caps = some res at h
  unfold rstep_go at h
  split at h
  · simp only [Option.some.injEq] at h
    subst h
    rename_i q0_ q1_ q2_ q3_ q4_ q5_ q6_ q7_ q8_ q9_ q10_ q11_ q13_ q14_ q15_ q16_ q12_
    obtain ⟨p0, p1, p2, _⟩ := ho
    exact EX.of (rstep_tree q0_ q1_ q2_ q3_ q4_ q5_ q6_ q7_ q8_ q9_ q10_ q11_ q12_ q13_ q14_ q15_ q16_) (rstep_holds q0_ q1_ q2_ q3_ q4_ q5_ q6_ q7_ q8_ q9_ q10_ q11_ q12_ q13_ q14_ q15_ q16_ p0 p1 p2)
  · cases h
def rinject_res (bi : Int) (bf : Int) (bv : Int) (bt : Int) (bm : Int) (be : Int) (bd : Int) (po : Int) (sp : Int) (re : Int) (pr : Int) (fl : Int) (l : List Int) (fu : Int) (ai : Int) : CRes := ⟨[bOk bi bf bv bt bm be bd, gB bi bd po sp re pr fl l, fOk fu ai], .tup [.agg [.int .i64 (po), .int .i64 (sp), .int .i64 (re), .int .i64 (pr), .int .i64 (jFl bm be fl fu), .row 1], .cel (.int .i64 (jC bm be fl fu))], [.ints .i64 (jL bd l (jMx bm be fl fu ai))]⟩
def rinject_go : List TV → List RowA → List (List CV) → Option CRes := fun args rows caps =>
  match args, rows, caps with
  | [.agg [.int .i64 bi, .int .i64 bf, .int .i64 bv, .int .i64 bt, .int .i64 bm, .int .i64 be, .int .i64 bd], .agg [.int .i64 po, .int .i64 sp, .int .i64 re, .int .i64 pr, .int .i64 fl, .row 0], .cel (.int .i64 fu), .cel (.int .i64 ai)], [.ints .i64 l], [] => some (rinject_res bi bf bv bt bm be bd po sp re pr fl l fu ai)
  | _, _, _ => none
def rinject_e : Ent := ⟨19, [.ints .i64 []], rinject_go⟩
set_option maxRecDepth 100000 in
theorem rinject_tree (bi : Int) (bf : Int) (bv : Int) (bt : Int) (bm : Int) (be : Int) (bd : Int) (po : Int) (sp : Int) (re : Int) (pr : Int) (fl : Int) (l : List Int) (fu : Int) (ai : Int) : ((cnd (decide ((0 : Int) < (Go.IntKind.wrap Go.IntKind.i64 ((Go.IntKind.wrap Go.IntKind.i64 (fu - (Go.IntKind.wrap Go.IntKind.i64 (Int.tdiv (Go.IntKind.wrap Go.IntKind.i64 (fu * bm)) (1024 : Int))))) + (Go.IntKind.wrap Go.IntKind.i64 (Int.tdiv (Go.IntKind.wrap Go.IntKind.i64 (fl * be)) (1024 : Int)))))))
  (cnd (decide ((Go.IntKind.wrap Go.IntKind.i64 ((147 : Int) * (Go.IntKind.wrap Go.IntKind.i64 ((Go.IntKind.wrap Go.IntKind.i64 (fu - (Go.IntKind.wrap Go.IntKind.i64 (Int.tdiv (Go.IntKind.wrap Go.IntKind.i64 (fu * bm)) (1024 : Int))))) + (Go.IntKind.wrap Go.IntKind.i64 (Int.tdiv (Go.IntKind.wrap Go.IntKind.i64 (fl * be)) (1024 : Int))))))) ≠ (0 : Int)))
    (cnd (decide ((List.length (([] : List Int) ++ l)) ≤ 4294967296))
      (cnd (decide ((List.length ((([] : List Int) ++ l) ++ [(Min.min (Max.max (Go.IntKind.wrap Go.IntKind.i64 (Int.tdiv (Go.IntKind.wrap Go.IntKind.i64 ((10000 : Int) * ai)) (Go.IntKind.wrap Go.IntKind.i64 ((147 : Int) * (Go.IntKind.wrap Go.IntKind.i64 ((Go.IntKind.wrap Go.IntKind.i64 (fu - (Go.IntKind.wrap Go.IntKind.i64 (Int.tdiv (Go.IntKind.wrap Go.IntKind.i64 (fu * bm)) (1024 : Int))))) + (Go.IntKind.wrap Go.IntKind.i64 (Int.tdiv (Go.IntKind.wrap Go.IntKind.i64 (fl * be)) (1024 : Int))))))))) (500 : Int)) (2000 : Int))])) ≤ 4294967296))
        (cnd (decide ((Go.IntKind.wrap Go.IntKind.i64 (bd + (1 : Int))) < (((List.length ((([] : List Int) ++ l) ++ [(Min.min (Max.max (Go.IntKind.wrap Go.IntKind.i64 (Int.tdiv (Go.IntKind.wrap Go.IntKind.i64 ((10000 : Int) * ai)) (Go.IntKind.wrap Go.IntKind.i64 ((147 : Int) * (Go.IntKind.wrap Go.IntKind.i64 ((Go.IntKind.wrap Go.IntKind.i64 (fu - (Go.IntKind.wrap Go.IntKind.i64 (Int.tdiv (Go.IntKind.wrap Go.IntKind.i64 (fu * bm)) (1024 : Int))))) + (Go.IntKind.wrap Go.IntKind.i64 (Int.tdiv (Go.IntKind.wrap Go.IntKind.i64 (fl * be)) (1024 : Int))))))))) (500 : Int)) (2000 : Int))])) : Nat) : Int)))
          (cnd (decide ((1 : Int) ≤ (((List.length ((([] : List Int) ++ l) ++ [(Min.min (Max.max (Go.IntKind.wrap Go.IntKind.i64 (Int.tdiv (Go.IntKind.wrap Go.IntKind.i64 ((10000 : Int) * ai)) (Go.IntKind.wrap Go.IntKind.i64 ((147 : Int) * (Go.IntKind.wrap Go.IntKind.i64 ((Go.IntKind.wrap Go.IntKind.i64 (fu - (Go.IntKind.wrap Go.IntKind.i64 (Int.tdiv (Go.IntKind.wrap Go.IntKind.i64 (fu * bm)) (1024 : Int))))) + (Go.IntKind.wrap Go.IntKind.i64 (Int.tdiv (Go.IntKind.wrap Go.IntKind.i64 (fl * be)) (1024 : Int))))))))) (500 : Int)) (2000 : Int))])) : Nat) : Int)))
            (cnd (decide ((((List.length ((([] : List Int) ++ l) ++ [(Min.min (Max.max (Go.IntKind.wrap Go.IntKind.i64 (Int.tdiv (Go.IntKind.wrap Go.IntKind.i64 ((10000 : Int) * ai)) (Go.IntKind.wrap Go.IntKind.i64 ((147 : Int) * (Go.IntKind.wrap Go.IntKind.i64 ((Go.IntKind.wrap Go.IntKind.i64 (fu - (Go.IntKind.wrap Go.IntKind.i64 (Int.tdiv (Go.IntKind.wrap Go.IntKind.i64 (fu * bm)) (1024 : Int))))) + (Go.IntKind.wrap Go.IntKind.i64 (Int.tdiv (Go.IntKind.wrap Go.IntKind.i64 (fl * be)) (1024 : Int))))))))) (500 : Int)) (2000 : Int))])) : Nat) : Int) ≤ (((List.length ((([] : List Int) ++ l) ++ [(Min.min (Max.max (Go.IntKind.wrap Go.IntKind.i64 (Int.tdiv (Go.IntKind.wrap Go.IntKind.i64 ((10000 : Int) * ai)) (Go.IntKind.wrap Go.IntKind.i64 ((147 : Int) * (Go.IntKind.wrap Go.IntKind.i64 ((Go.IntKind.wrap Go.IntKind.i64 (fu - (Go.IntKind.wrap Go.IntKind.i64 (Int.tdiv (Go.IntKind.wrap Go.IntKind.i64 (fu * bm)) (1024 : Int))))) + (Go.IntKind.wrap Go.IntKind.i64 (Int.tdiv (Go.IntKind.wrap Go.IntKind.i64 (fl * be)) (1024 : Int))))))))) (500 : Int)) (2000 : Int))])) : Nat) : Int)))
              ((((po = po) ∧ ((sp = sp) ∧ ((re = re) ∧ ((pr = pr) ∧ (((Go.IntKind.wrap Go.IntKind.i64 ((Go.IntKind.wrap Go.IntKind.i64 (fl + (Go.IntKind.wrap Go.IntKind.i64 (Int.tdiv (Go.IntKind.wrap Go.IntKind.i64 (fu * bm)) (1024 : Int))))) - (Go.IntKind.wrap Go.IntKind.i64 (Int.tdiv (Go.IntKind.wrap Go.IntKind.i64 (fl * be)) (1024 : Int))))) = (jFl bm be fl fu)) ∧ True))))) ∧ ((Go.IntKind.wrap Go.IntKind.i64 ((Go.IntKind.wrap Go.IntKind.i64 (fu - (Go.IntKind.wrap Go.IntKind.i64 (Int.tdiv (Go.IntKind.wrap Go.IntKind.i64 (fu * bm)) (1024 : Int))))) + (Go.IntKind.wrap Go.IntKind.i64 (Int.tdiv (Go.IntKind.wrap Go.IntKind.i64 (fl * be)) (1024 : Int))))) = (jC bm be fl fu))) ∧ (((List.drop (Int.toNat (1 : Int)) (List.take (Int.toNat (((List.length ((([] : List Int) ++ l) ++ [(Min.min (Max.max (Go.IntKind.wrap Go.IntKind.i64 (Int.tdiv (Go.IntKind.wrap Go.IntKind.i64 ((10000 : Int) * ai)) (Go.IntKind.wrap Go.IntKind.i64 ((147 : Int) * (Go.IntKind.wrap Go.IntKind.i64 ((Go.IntKind.wrap Go.IntKind.i64 (fu - (Go.IntKind.wrap Go.IntKind.i64 (Int.tdiv (Go.IntKind.wrap Go.IntKind.i64 (fu * bm)) (1024 : Int))))) + (Go.IntKind.wrap Go.IntKind.i64 (Int.tdiv (Go.IntKind.wrap Go.IntKind.i64 (fl * be)) (1024 : Int))))))))) (500 : Int)) (2000 : Int))])) : Nat) : Int)) ((([] : List Int) ++ l) ++ [(Min.min (Max.max (Go.IntKind.wrap Go.IntKind.i64 (Int.tdiv (Go.IntKind.wrap Go.IntKind.i64 ((10000 : Int) * ai)) (Go.IntKind.wrap Go.IntKind.i64 ((147 : Int) * (Go.IntKind.wrap Go.IntKind.i64 ((Go.IntKind.wrap Go.IntKind.i64 (fu - (Go.IntKind.wrap Go.IntKind.i64 (Int.tdiv (Go.IntKind.wrap Go.IntKind.i64 (fu * bm)) (1024 : Int))))) + (Go.IntKind.wrap Go.IntKind.i64 (Int.tdiv (Go.IntKind.wrap Go.IntKind.i64 (fl * be)) (1024 : Int))))))))) (500 : Int)) (2000 : Int))]))) = (jL bd l (jMx bm be fl fu ai))) ∧ True))
              False)
            False)
          ((((po = po) ∧ ((sp = sp) ∧ ((re = re) ∧ ((pr = pr) ∧ (((Go.IntKind.wrap Go.IntKind.i64 ((Go.IntKind.wrap Go.IntKind.i64 (fl + (Go.IntKind.wrap Go.IntKind.i64 (Int.tdiv (Go.IntKind.wrap Go.IntKind.i64 (fu * bm)) (1024 : Int))))) - (Go.IntKind.wrap Go.IntKind.i64 (Int.tdiv (Go.IntKind.wrap Go.IntKind.i64 (fl * be)) (1024 : Int))))) = (jFl bm be fl fu)) ∧ True))))) ∧ ((Go.IntKind.wrap Go.IntKind.i64 ((Go.IntKind.wrap Go.IntKind.i64 (fu - (Go.IntKind.wrap Go.IntKind.i64 (Int.tdiv (Go.IntKind.wrap Go.IntKind.i64 (fu * bm)) (1024 : Int))))) + (Go.IntKind.wrap Go.IntKind.i64 (Int.tdiv (Go.IntKind.wrap Go.IntKind.i64 (fl * be)) (1024 : Int))))) = (jC bm be fl fu))) ∧ ((((([] : List Int) ++ l) ++ [(Min.min (Max.max (Go.IntKind.wrap Go.IntKind.i64 (Int.tdiv (Go.IntKind.wrap Go.IntKind.i64 ((10000 : Int) * ai)) (Go.IntKind.wrap Go.IntKind.i64 ((147 : Int) * (Go.IntKind.wrap Go.IntKind.i64 ((Go.IntKind.wrap Go.IntKind.i64 (fu - (Go.IntKind.wrap Go.IntKind.i64 (Int.tdiv (Go.IntKind.wrap Go.IntKind.i64 (fu * bm)) (1024 : Int))))) + (Go.IntKind.wrap Go.IntKind.i64 (Int.tdiv (Go.IntKind.wrap Go.IntKind.i64 (fl * be)) (1024 : Int))))))))) (500 : Int)) (2000 : Int))]) = (jL bd l (jMx bm be fl fu ai))) ∧ True)))
        False)
      False)
    False)
  (cnd (decide ((List.length (([] : List Int) ++ l)) ≤ 4294967296))
    (cnd (decide ((List.length ((([] : List Int) ++ l) ++ [(2000 : Int)])) ≤ 4294967296))
      (cnd (decide ((Go.IntKind.wrap Go.IntKind.i64 (bd + (1 : Int))) < (((List.length ((([] : List Int) ++ l) ++ [(2000 : Int)])) : Nat) : Int)))
        (cnd (decide ((1 : Int) ≤ (((List.length ((([] : List Int) ++ l) ++ [(2000 : Int)])) : Nat) : Int)))
          (cnd (decide ((((List.length ((([] : List Int) ++ l) ++ [(2000 : Int)])) : Nat) : Int) ≤ (((List.length ((([] : List Int) ++ l) ++ [(2000 : Int)])) : Nat) : Int)))
            ((((po = po) ∧ ((sp = sp) ∧ ((re = re) ∧ ((pr = pr) ∧ (((Go.IntKind.wrap Go.IntKind.i64 ((Go.IntKind.wrap Go.IntKind.i64 (fl + (Go.IntKind.wrap Go.IntKind.i64 (Int.tdiv (Go.IntKind.wrap Go.IntKind.i64 (fu * bm)) (1024 : Int))))) - (Go.IntKind.wrap Go.IntKind.i64 (Int.tdiv (Go.IntKind.wrap Go.IntKind.i64 (fl * be)) (1024 : Int))))) = (jFl bm be fl fu)) ∧ True))))) ∧ ((Go.IntKind.wrap Go.IntKind.i64 ((Go.IntKind.wrap Go.IntKind.i64 (fu - (Go.IntKind.wrap Go.IntKind.i64 (Int.tdiv (Go.IntKind.wrap Go.IntKind.i64 (fu * bm)) (1024 : Int))))) + (Go.IntKind.wrap Go.IntKind.i64 (Int.tdiv (Go.IntKind.wrap Go.IntKind.i64 (fl * be)) (1024 : Int))))) = (jC bm be fl fu))) ∧ (((List.drop (Int.toNat (1 : Int)) (List.take (Int.toNat (((List.length ((([] : List Int) ++ l) ++ [(2000 : Int)])) : Nat) : Int)) ((([] : List Int) ++ l) ++ [(2000 : Int)]))) = (jL bd l (jMx bm be fl fu ai))) ∧ True))
            False)
          False)
        ((((po = po) ∧ ((sp = sp) ∧ ((re = re) ∧ ((pr = pr) ∧ (((Go.IntKind.wrap Go.IntKind.i64 ((Go.IntKind.wrap Go.IntKind.i64 (fl + (Go.IntKind.wrap Go.IntKind.i64 (Int.tdiv (Go.IntKind.wrap Go.IntKind.i64 (fu * bm)) (1024 : Int))))) - (Go.IntKind.wrap Go.IntKind.i64 (Int.tdiv (Go.IntKind.wrap Go.IntKind.i64 (fl * be)) (1024 : Int))))) = (jFl bm be fl fu)) ∧ True))))) ∧ ((Go.IntKind.wrap Go.IntKind.i64 ((Go.IntKind.wrap Go.IntKind.i64 (fu - (Go.IntKind.wrap Go.IntKind.i64 (Int.tdiv (Go.IntKind.wrap Go.IntKind.i64 (fu * bm)) (1024 : Int))))) + (Go.IntKind.wrap Go.IntKind.i64 (Int.tdiv (Go.IntKind.wrap Go.IntKind.i64 (fl * be)) (1024 : Int))))) = (jC bm be fl fu))) ∧ ((((([] : List Int) ++ l) ++ [(2000 : Int)]) = (jL bd l (jMx bm be fl fu ai))) ∧ True)))
      False)
    False))) = EXD Try.prog (conOf [rlimit_e]) Try.f19 [.agg [.int .i64 bi, .int .i64 bf, .int .i64 bv, .int .i64 bt, .int .i64 bm, .int .i64 be, .int .i64 bd], .agg [.int .i64 po, .int .i64 sp, .int .i64 re, .int .i64 pr, .int .i64 fl, .row 0], .cel (.int .i64 fu), .cel (.int .i64 ai)] [.ints .i64 l] [] (rinject_res bi bf bv bt bm be bd po sp re pr fl l fu ai) := by kernel_rfl
theorem rinject_holds (bi : Int) (bf : Int) (bv : Int) (bt : Int) (bm : Int) (be : Int) (bd : Int) (po : Int) (sp : Int) (re : Int) (pr : Int) (fl : Int) (l : List Int) (fu : Int) (ai : Int) (p0 : bOk bi bf bv bt bm be bd = true) (p1 : gB bi bd po sp re pr fl l = true) (p2 : fOk fu ai = true) : (cnd (decide ((0 : Int) < (Go.IntKind.wrap Go.IntKind.i64 ((Go.IntKind.wrap Go.IntKind.i64 (fu - (Go.IntKind.wrap Go.IntKind.i64 (Int.tdiv (Go.IntKind.wrap Go.IntKind.i64 (fu * bm)) (1024 : Int))))) + (Go.IntKind.wrap Go.IntKind.i64 (Int.tdiv (Go.IntKind.wrap Go.IntKind.i64 (fl * be)) (1024 : Int)))))))
  (cnd (decide ((Go.IntKind.wrap Go.IntKind.i64 ((147 : Int) * (Go.IntKind.wrap Go.IntKind.i64 ((Go.IntKind.wrap Go.IntKind.i64 (fu - (Go.IntKind.wrap Go.IntKind.i64 (Int.tdiv (Go.IntKind.wrap Go.IntKind.i64 (fu * bm)) (1024 : Int))))) + (Go.IntKind.wrap Go.IntKind.i64 (Int.tdiv (Go.IntKind.wrap Go.IntKind.i64 (fl * be)) (1024 : Int))))))) ≠ (0 : Int)))
    (cnd (decide ((List.length (([] : List Int) ++ l)) ≤ 4294967296))
      (cnd (decide ((List.length ((([] : List Int) ++ l) ++ [(Min.min (Max.max (Go.IntKind.wrap Go.IntKind.i64 (Int.tdiv (Go.IntKind.wrap Go.IntKind.i64 ((10000 : Int) * ai)) (Go.IntKind.wrap Go.IntKind.i64 ((147 : Int) * (Go.IntKind.wrap Go.IntKind.i64 ((Go.IntKind.wrap Go.IntKind.i64 (fu - (Go.IntKind.wrap Go.IntKind.i64 (Int.tdiv (Go.IntKind.wrap Go.IntKind.i64 (fu * bm)) (1024 : Int))))) + (Go.IntKind.wrap Go.IntKind.i64 (Int.tdiv (Go.IntKind.wrap Go.IntKind.i64 (fl * be)) (1024 : Int))))))))) (500 : Int)) (2000 : Int))])) ≤ 4294967296))
        (cnd (decide ((Go.IntKind.wrap Go.IntKind.i64 (bd + (1 : Int))) < (((List.length ((([] : List Int) ++ l) ++ [(Min.min (Max.max (Go.IntKind.wrap Go.IntKind.i64 (Int.tdiv (Go.IntKind.wrap Go.IntKind.i64 ((10000 : Int) * ai)) (Go.IntKind.wrap Go.IntKind.i64 ((147 : Int) * (Go.IntKind.wrap Go.IntKind.i64 ((Go.IntKind.wrap Go.IntKind.i64 (fu - (Go.IntKind.wrap Go.IntKind.i64 (Int.tdiv (Go.IntKind.wrap Go.IntKind.i64 (fu * bm)) (1024 : Int))))) + (Go.IntKind.wrap Go.IntKind.i64 (Int.tdiv (Go.IntKind.wrap Go.IntKind.i64 (fl * be)) (1024 : Int))))))))) (500 : Int)) (2000 : Int))])) : Nat) : Int)))
          (cnd (decide ((1 : Int) ≤ (((List.length ((([] : List Int) ++ l) ++ [(Min.min (Max.max (Go.IntKind.wrap Go.IntKind.i64 (Int.tdiv (Go.IntKind.wrap Go.IntKind.i64 ((10000 : Int) * ai)) (Go.IntKind.wrap Go.IntKind.i64 ((147 : Int) * (Go.IntKind.wrap Go.IntKind.i64 ((Go.IntKind.wrap Go.IntKind.i64 (fu - (Go.IntKind.wrap Go.IntKind.i64 (Int.tdiv (Go.IntKind.wrap Go.IntKind.i64 (fu * bm)) (1024 : Int))))) + (Go.IntKind.wrap Go.IntKind.i64 (Int.tdiv (Go.IntKind.wrap Go.IntKind.i64 (fl * be)) (1024 : Int))))))))) (500 : Int)) (2000 : Int))])) : Nat) : Int)))
            (cnd (decide ((((List.length ((([] : List Int) ++ l) ++ [(Min.min (Max.max (Go.IntKind.wrap Go.IntKind.i64 (Int.tdiv (Go.IntKind.wrap Go.IntKind.i64 ((10000 : Int) * ai)) (Go.IntKind.wrap Go.IntKind.i64 ((147 : Int) * (Go.IntKind.wrap Go.IntKind.i64 ((Go.IntKind.wrap Go.IntKind.i64 (fu - (Go.IntKind.wrap Go.IntKind.i64 (Int.tdiv (Go.IntKind.wrap Go.IntKind.i64 (fu * bm)) (1024 : Int))))) + (Go.IntKind.wrap Go.IntKind.i64 (Int.tdiv (Go.IntKind.wrap Go.IntKind.i64 (fl * be)) (1024 : Int))))))))) (500 : Int)) (2000 : Int))])) : Nat) : Int) ≤ (((List.length ((([] : List Int) ++ l) ++ [(Min.min (Max.max (Go.IntKind.wrap Go.IntKind.i64 (Int.tdiv (Go.IntKind.wrap Go.IntKind.i64 ((10000 : Int) * ai)) (Go.IntKind.wrap Go.IntKind.i64 ((147 : Int) * (Go.IntKind.wrap Go.IntKind.i64 ((Go.IntKind.wrap Go.IntKind.i64 (fu - (Go.IntKind.wrap Go.IntKind.i64 (Int.tdiv (Go.IntKind.wrap Go.IntKind.i64 (fu * bm)) (1024 : Int))))) + (Go.IntKind.wrap Go.IntKind.i64 (Int.tdiv (Go.IntKind.wrap Go.IntKind.i64 (fl * be)) (1024 : Int))))))))) (500 : Int)) (2000 : Int))])) : Nat) : Int)))
              ((((po = po) ∧ ((sp = sp) ∧ ((re = re) ∧ ((pr = pr) ∧ (((Go.IntKind.wrap Go.IntKind.i64 ((Go.IntKind.wrap Go.IntKind.i64 (fl + (Go.IntKind.wrap Go.IntKind.i64 (Int.tdiv (Go.IntKind.wrap Go.IntKind.i64 (fu * bm)) (1024 : Int))))) - (Go.IntKind.wrap Go.IntKind.i64 (Int.tdiv (Go.IntKind.wrap Go.IntKind.i64 (fl * be)) (1024 : Int))))) = (jFl bm be fl fu)) ∧ True))))) ∧ ((Go.IntKind.wrap Go.IntKind.i64 ((Go.IntKind.wrap Go.IntKind.i64 (fu - (Go.IntKind.wrap Go.IntKind.i64 (Int.tdiv (Go.IntKind.wrap Go.IntKind.i64 (fu * bm)) (1024 : Int))))) + (Go.IntKind.wrap Go.IntKind.i64 (Int.tdiv (Go.IntKind.wrap Go.IntKind.i64 (fl * be)) (1024 : Int))))) = (jC bm be fl fu))) ∧ (((List.drop (Int.toNat (1 : Int)) (List.take (Int.toNat (((List.length ((([] : List Int) ++ l) ++ [(Min.min (Max.max (Go.IntKind.wrap Go.IntKind.i64 (Int.tdiv (Go.IntKind.wrap Go.IntKind.i64 ((10000 : Int) * ai)) (Go.IntKind.wrap Go.IntKind.i64 ((147 : Int) * (Go.IntKind.wrap Go.IntKind.i64 ((Go.IntKind.wrap Go.IntKind.i64 (fu - (Go.IntKind.wrap Go.IntKind.i64 (Int.tdiv (Go.IntKind.wrap Go.IntKind.i64 (fu * bm)) (1024 : Int))))) + (Go.IntKind.wrap Go.IntKind.i64 (Int.tdiv (Go.IntKind.wrap Go.IntKind.i64 (fl * be)) (1024 : Int))))))))) (500 : Int)) (2000 : Int))])) : Nat) : Int)) ((([] : List Int) ++ l) ++ [(Min.min (Max.max (Go.IntKind.wrap Go.IntKind.i64 (Int.tdiv (Go.IntKind.wrap Go.IntKind.i64 ((10000 : Int) * ai)) (Go.IntKind.wrap Go.IntKind.i64 ((147 : Int) * (Go.IntKind.wrap Go.IntKind.i64 ((Go.IntKind.wrap Go.IntKind.i64 (fu - (Go.IntKind.wrap Go.IntKind.i64 (Int.tdiv (Go.IntKind.wrap Go.IntKind.i64 (fu * bm)) (1024 : Int))))) + (Go.IntKind.wrap Go.IntKind.i64 (Int.tdiv (Go.IntKind.wrap Go.IntKind.i64 (fl * be)) (1024 : Int))))))))) (500 : Int)) (2000 : Int))]))) = (jL bd l (jMx bm be fl fu ai))) ∧ True))
              False)
            False)
          ((((po = po) ∧ ((sp = sp) ∧ ((re = re) ∧ ((pr = pr) ∧ (((Go.IntKind.wrap Go.IntKind.i64 ((Go.IntKind.wrap Go.IntKind.i64 (fl + (Go.IntKind.wrap Go.IntKind.i64 (Int.tdiv (Go.IntKind.wrap Go.IntKind.i64 (fu * bm)) (1024 : Int))))) - (Go.IntKind.wrap Go.IntKind.i64 (Int.tdiv (Go.IntKind.wrap Go.IntKind.i64 (fl * be)) (1024 : Int))))) = (jFl bm be fl fu)) ∧ True))))) ∧ ((Go.IntKind.wrap Go.IntKind.i64 ((Go.IntKind.wrap Go.IntKind.i64 (fu - (Go.IntKind.wrap Go.IntKind.i64 (Int.tdiv (Go.IntKind.wrap Go.IntKind.i64 (fu * bm)) (1024 : Int))))) + (Go.IntKind.wrap Go.IntKind.i64 (Int.tdiv (Go.IntKind.wrap Go.IntKind.i64 (fl * be)) (1024 : Int))))) = (jC bm be fl fu))) ∧ ((((([] : List Int) ++ l) ++ [(Min.min (Max.max (Go.IntKind.wrap Go.IntKind.i64 (Int.tdiv (Go.IntKind.wrap Go.IntKind.i64 ((10000 : Int) * ai)) (Go.IntKind.wrap Go.IntKind.i64 ((147 : Int) * (Go.IntKind.wrap Go.IntKind.i64 ((Go.IntKind.wrap Go.IntKind.i64 (fu - (Go.IntKind.wrap Go.IntKind.i64 (Int.tdiv (Go.IntKind.wrap Go.IntKind.i64 (fu * bm)) (1024 : Int))))) + (Go.IntKind.wrap Go.IntKind.i64 (Int.tdiv (Go.IntKind.wrap Go.IntKind.i64 (fl * be)) (1024 : Int))))))))) (500 : Int)) (2000 : Int))]) = (jL bd l (jMx bm be fl fu ai))) ∧ True)))
        False)
      False)
    False)
  (cnd (decide ((List.length (([] : List Int) ++ l)) ≤ 4294967296))
    (cnd (decide ((List.length ((([] : List Int) ++ l) ++ [(2000 : Int)])) ≤ 4294967296))
      (cnd (decide ((Go.IntKind.wrap Go.IntKind.i64 (bd + (1 : Int))) < (((List.length ((([] : List Int) ++ l) ++ [(2000 : Int)])) : Nat) : Int)))
        (cnd (decide ((1 : Int) ≤ (((List.length ((([] : List Int) ++ l) ++ [(2000 : Int)])) : Nat) : Int)))
          (cnd (decide ((((List.length ((([] : List Int) ++ l) ++ [(2000 : Int)])) : Nat) : Int) ≤ (((List.length ((([] : List Int) ++ l) ++ [(2000 : Int)])) : Nat) : Int)))
            ((((po = po) ∧ ((sp = sp) ∧ ((re = re) ∧ ((pr = pr) ∧ (((Go.IntKind.wrap Go.IntKind.i64 ((Go.IntKind.wrap Go.IntKind.i64 (fl + (Go.IntKind.wrap Go.IntKind.i64 (Int.tdiv (Go.IntKind.wrap Go.IntKind.i64 (fu * bm)) (1024 : Int))))) - (Go.IntKind.wrap Go.IntKind.i64 (Int.tdiv (Go.IntKind.wrap Go.IntKind.i64 (fl * be)) (1024 : Int))))) = (jFl bm be fl fu)) ∧ True))))) ∧ ((Go.IntKind.wrap Go.IntKind.i64 ((Go.IntKind.wrap Go.IntKind.i64 (fu - (Go.IntKind.wrap Go.IntKind.i64 (Int.tdiv (Go.IntKind.wrap Go.IntKind.i64 (fu * bm)) (1024 : Int))))) + (Go.IntKind.wrap Go.IntKind.i64 (Int.tdiv (Go.IntKind.wrap Go.IntKind.i64 (fl * be)) (1024 : Int))))) = (jC bm be fl fu))) ∧ (((List.drop (Int.toNat (1 : Int)) (List.take (Int.toNat (((List.length ((([] : List Int) ++ l) ++ [(2000 : Int)])) : Nat) : Int)) ((([] : List Int) ++ l) ++ [(2000 : Int)]))) = (jL bd l (jMx bm be fl fu ai))) ∧ True))
            False)
          False)
        ((((po = po) ∧ ((sp = sp) ∧ ((re = re) ∧ ((pr = pr) ∧ (((Go.IntKind.wrap Go.IntKind.i64 ((Go.IntKind.wrap Go.IntKind.i64 (fl + (Go.IntKind.wrap Go.IntKind.i64 (Int.tdiv (Go.IntKind.wrap Go.IntKind.i64 (fu * bm)) (1024 : Int))))) - (Go.IntKind.wrap Go.IntKind.i64 (Int.tdiv (Go.IntKind.wrap Go.IntKind.i64 (fl * be)) (1024 : Int))))) = (jFl bm be fl fu)) ∧ True))))) ∧ ((Go.IntKind.wrap Go.IntKind.i64 ((Go.IntKind.wrap Go.IntKind.i64 (fu - (Go.IntKind.wrap Go.IntKind.i64 (Int.tdiv (Go.IntKind.wrap Go.IntKind.i64 (fu * bm)) (1024 : Int))))) + (Go.IntKind.wrap Go.IntKind.i64 (Int.tdiv (Go.IntKind.wrap Go.IntKind.i64 (fl * be)) (1024 : Int))))) = (jC bm be fl fu))) ∧ ((((([] : List Int) ++ l) ++ [(2000 : Int)]) = (jL bd l (jMx bm be fl fu ai))) ∧ True)))
      False)
    False)) := by
  have hg := p1
  have hgH : gH bi bd po sp re pr fl l.length = true := by
    unfold gB at hg
    simp only [Bool.and_eq_true] at hg
    exact hg.1
  have hb2 := bOk_iff.1 p0
  have hg2 := gH_iff.1 hgH
  have ha2 := fOk_iff.1 p2
  obtain ⟨b1, b2, b3, b4⟩ := jB hb2.2.2.2.2.1 hb2.2.2.2.2.2.1 hg2.2.2.2.2.1 ha2.1
  rw [w64 (n := fu * bm) (by omega) (by omega), w64 (n := fl * be) (by omega) (by omega), tdiv_pos b1.1, tdiv_pos b3.1, show fu * bm / 1024 = jSt bm fu from rfl, show fl * be / 1024 = jLe be fl from rfl, w64 (n := jSt bm fu) (by omega) (by omega), w64 (n := jLe be fl) (by omega) (by omega), w64 (n := fu - jSt bm fu) (by omega) (by omega), w64 (n := fu - jSt bm fu + jLe be fl) (by omega) (by omega), show fu - jSt bm fu + jLe be fl = jC bm be fl fu from rfl, w64 (n := fl + jSt bm fu) (by omega) (by omega), w64 (n := fl + jSt bm fu - jLe be fl) (by omega) (by omega), show fl + jSt bm fu - jLe be fl = jFl bm be fl fu by unfold jFl; omega]
  have hc : 0 ≤ jC bm be fl fu ∧ jC bm be fl fu ≤ 4294967296 := by unfold jC; omega
  rw [w64 (n := 147 * jC bm be fl fu) (by omega) (by omega), w64 (n := 10000 * ai) (by omega) (by omega), w64 (n := bd + 1) (by omega) (by omega), tdiv_pos (by omega : 0 ≤ 10000 * ai)]
  have hlen : (l.length : Int) ≤ 21 := by omega
  have j1 : decide (([] ++ l).length ≤ 4294967296) = true := by simp; omega
  have j2 : ∀ m : Int, decide ((([] ++ l) ++ [m]).length ≤ 4294967296) = true := by intro m; simp; omega
  have j3 : ∀ m : Int, decide ((1 : Int) ≤ (((([] ++ l) ++ [m]).length : Nat) : Int)) = true := by intro m; rw [decide_eq_true_eq]; simp; omega
  have e0 : ∀ m : Int, ([] ++ l) ++ [m] = l ++ [m] := fun m => rfl
  have fin : ∀ m : Int, (cnd (decide (bd + 1 < (((([] ++ l) ++ [m]).length : Nat) : Int))) ((([] ++ l) ++ [m]).drop 1 = jL bd l m) ((([] ++ l) ++ [m]) = jL bd l m)) := by
    intro m
    unfold jL
    rw [e0]
    by_cases h : bd + 1 < (((l ++ [m]).length : Nat) : Int)
    · rw [if_pos h, decide_eq_true h]; rfl
    · rw [if_neg h, decide_eq_false h]; rfl
  have lim0 : decide ((500 : Int) ≤ 2000) = true := rfl
  by_cases hp : 0 < jC bm be fl fu
  · have hq := quo_pos (x := 10000 * ai) (y := 147 * jC bm be fl fu) (by omega) (by omega)
    rw [w64 (n := 10000 * ai / (147 * jC bm be fl fu)) (by omega) (by omega)]
    have em : min (max (10000 * ai / (147 * jC bm be fl fu)) 500) 2000 = jMx bm be fl fu ai := by unfold jMx; rw [if_pos hp]
    rw [em]
    have j4 : decide (0 < jC bm be fl fu) = true := by simpa using hp
    have j5 : decide (147 * jC bm be fl fu ≠ 0) = true := by simp; omega
    have f := fin (jMx bm be fl fu ai)
    simp only [j1, j2, j3, j4, j5, lim0, cnd, Int.le_refl, decide_true, Int.toNat_natCast, List.take_length] at f ⊢
    generalize decide (bd + 1 < (((([] ++ l) ++ [jMx bm be fl fu ai]).length : Nat) : Int)) = q at f ⊢
    cases q <;> exact ⟨by simp, f, trivial⟩
  · have em : jMx bm be fl fu ai = 2000 := by unfold jMx; rw [if_neg hp]
    have j4 : decide (0 < jC bm be fl fu) = false := by simpa using hp
    rw [em]
    have f := fin 2000
    simp only [j1, j2, j3, j4, cnd, Int.le_refl, decide_true, Int.toNat_natCast, List.take_length] at f ⊢
    generalize decide (bd + 1 < (((([] ++ l) ++ [(2000 : Int)]).length : Nat) : Int)) = q at f ⊢
    cases q <;> exact ⟨by simp, f, trivial⟩
set_option maxHeartbeats 2000000 in
theorem rinject_ok : SoundEnt Try.prog rinject_e := by
  refine ent_of_ex (Γ := (conOf [rlimit_e])) (conOf_sound (scons rlimit_ok snil)) (by kernel_rfl) Try.func19 (by kernel_rfl) (by kernel_rfl) (fun args rows caps res h ho => ?_)
  change rinject_go args rows caps = some res at h
  unfold rinject_go at h
  split at h
  · simp only [Option.some.injEq] at h
    subst h
    rename_i q0_ q1_ q2_ q3_ q4_ q5_ q6_ q7_ q8_ q9_ q10_ q11_ q13_ q14_ q12_
    obtain ⟨p0, p1, p2, _⟩ := ho
    exact EX.of (rinject_tree q0_ q1_ q2_ q3_ q4_ q5_ q6_ q7_ q8_ q9_ q10_ q11_ q12_ q13_ q14_) (rinject_holds q0_ q1_ q2_ q3_ q4_ q5_ q6_ q7_ q8_ q9_ q10_ q11_ q12_ q13_ q14_ p0 p1 p2)
  · cases h
def rsame_res (po : Int) (sp : Int) (re : Int) (pr : Int) (fl : Int) (l : List Int) (po2 : Int) (sp2 : Int) (re2 : Int) (pr2 : Int) (fl2 : Int) (m : List Int) : CRes := ⟨[decide ((l.length : Int) ≤ 4611686018427387904), decide ((m.length : Int) ≤ 4611686018427387904)], .one (.cel (.bool (decide (po = po2) && decide (sp = sp2) && decide (re = re2) && decide (pr = pr2) && decide (fl = fl2) && decide (l = m)))), []⟩
def rsame_go : List TV → List RowA → List (List CV) → Option CRes := fun args rows caps =>
  match args, rows, caps with
  | [.agg [.int .i64 po, .int .i64 sp, .int .i64 re, .int .i64 pr, .int .i64 fl, .row 0], .agg [.int .i64 po2, .int .i64 sp2, .int .i64 re2, .int .i64 pr2, .int .i64 fl2, .row 1]], [.ints .i64 l, .ints .i64 m], [] => some (rsame_res po sp re pr fl l po2 sp2 re2 pr2 fl2 m)
  | _, _, _ => none
def rsame_e : Ent := ⟨16, [.ints .i64 [], .ints .i64 []], rsame_go⟩
def rsame_L1_F (po : Int) (sp : Int) (re : Int) (pr : Int) (fl : Int) (l : List Int) (po2 : Int) (sp2 : Int) (re2 : Int) (pr2 : Int) (fl2 : Int) (m : List Int) (i : Int) : St := ⟨66, [], [(5, (.one (.cel (.int .i64 i)))), (4, (.one (.cel (.bool Bool.false)))), (3, (.one (.cel (.ptr 1 0)))), (2, (.one (.cel (.ptr 0 0))))], [[(.int .i64 po), (.int .i64 sp), (.int .i64 re), (.int .i64 pr), (.int .i64 fl), (.row 0)], [(.int .i64 po2), (.int .i64 sp2), (.int .i64 re2), (.int .i64 pr2), (.int .i64 fl2), (.row 1)]], [⟨(.ints .i64 l), none⟩, ⟨(.ints .i64 m), none⟩], 0⟩
def rsame_L1_I (po : Int) (sp : Int) (re : Int) (pr : Int) (fl : Int) (l : List Int) (po2 : Int) (sp2 : Int) (re2 : Int) (pr2 : Int) (fl2 : Int) (m : List Int) (i : Int) : Prop := (0 ≤ i ∧ i ≤ l.length ∧ l.length = m.length ∧ (l.length : Int) ≤ 4611686018427387904) ∧ (l.take i.toNat = m.take i.toNat) ∧ ((decide (po = po2) && decide (sp = sp2) && decide (re = re2) && decide (pr = pr2) && decide (fl = fl2)) = true)
def rsame_L1_m (po : Int) (sp : Int) (re : Int) (pr : Int) (fl : Int) (l : List Int) (po2 : Int) (sp2 : Int) (re2 : Int) (pr2 : Int) (fl2 : Int) (m : List Int) (i : Int) : Nat := (l.length - i).toNat
def rsame_L1_N (po : Int) (sp : Int) (re : Int) (pr : Int) (fl : Int) (l : List Int) (po2 : Int) (sp2 : Int) (re2 : Int) (pr2 : Int) (fl2 : Int) (m : List Int) (i' : Int) (st_ : St) : Prop := getI st_ 5 fun i => rsame_L1_I po sp re pr fl l po2 sp2 re2 pr2 fl2 m i ∧ rsame_L1_m po sp re pr fl l po2 sp2 re2 pr2 fl2 m i < rsame_L1_m po sp re pr fl l po2 sp2 re2 pr2 fl2 m i' ∧ SubA st_ (rsame_L1_F po sp re pr fl l po2 sp2 re2 pr2 fl2 m i)
def rsame_L1_E (po : Int) (sp : Int) (re : Int) (pr : Int) (fl : Int) (l : List Int) (po2 : Int) (sp2 : Int) (re2 : Int) (pr2 : Int) (fl2 : Int) (m : List Int) (st_ : St) : Prop := getI st_ 5 fun i => rsame_L1_I po sp re pr fl l po2 sp2 re2 pr2 fl2 m i ∧ SubA st_ (rsame_L1_F po sp re pr fl l po2 sp2 re2 pr2 fl2 m i)
def rsame_L1_S1 (po : Int) (sp : Int) (re : Int) (pr : Int) (fl : Int) (l : List Int) (po2 : Int) (sp2 : Int) (re2 : Int) (pr2 : Int) (fl2 : Int) (m : List Int) : St := ⟨66, [39, 32, 25, 18, 11], [(5, (.one (.cel (.int .i64 (0 : Int))))), (47, (.one (.cel (.bool ((((((!(decide (po = po2))) || (!(decide (sp = sp2)))) || (!(decide (re = re2)))) || (!(decide (pr = pr2)))) || (!(decide (fl = fl2)))) || (!(decide ((((List.length l) : Nat) : Int) = (((List.length m) : Nat) : Int))))))))), (46, (.spec 39 Bool.false (.cel (.bool (!(decide ((((List.length l) : Nat) : Int) = (((List.length m) : Nat) : Int)))))))), (45, (.spec 39 Bool.false (.cel (.int .i64 (((List.length m) : Nat) : Int))))), (44, (.spec 39 Bool.false (.cel (.row 1)))), (43, (.spec 39 Bool.false (.cel (.ptr 1 5)))), (42, (.spec 39 Bool.false (.cel (.int .i64 (((List.length l) : Nat) : Int))))), (41, (.spec 39 Bool.false (.cel (.row 0)))), (40, (.spec 39 Bool.false (.cel (.ptr 0 5)))), (39, (.one (.cel (.bool (((((!(decide (po = po2))) || (!(decide (sp = sp2)))) || (!(decide (re = re2)))) || (!(decide (pr = pr2)))) || (!(decide (fl = fl2)))))))), (38, (.one (.cel (.bool (((((!(decide (po = po2))) || (!(decide (sp = sp2)))) || (!(decide (re = re2)))) || (!(decide (pr = pr2)))) || (!(decide (fl = fl2)))))))), (37, (.spec 32 Bool.false (.cel (.bool (!(decide (fl = fl2))))))), (36, (.spec 32 Bool.false (.cel (.int .i64 fl2)))), (35, (.spec 32 Bool.false (.cel (.ptr 1 4)))), (34, (.spec 32 Bool.false (.cel (.int .i64 fl)))), (33, (.spec 32 Bool.false (.cel (.ptr 0 4)))), (32, (.one (.cel (.bool ((((!(decide (po = po2))) || (!(decide (sp = sp2)))) || (!(decide (re = re2)))) || (!(decide (pr = pr2)))))))), (31, (.one (.cel (.bool ((((!(decide (po = po2))) || (!(decide (sp = sp2)))) || (!(decide (re = re2)))) || (!(decide (pr = pr2)))))))), (30, (.spec 25 Bool.false (.cel (.bool (!(decide (pr = pr2))))))), (29, (.spec 25 Bool.false (.cel (.int .i64 pr2)))), (28, (.spec 25 Bool.false (.cel (.ptr 1 3)))), (27, (.spec 25 Bool.false (.cel (.int .i64 pr)))), (26, (.spec 25 Bool.false (.cel (.ptr 0 3)))), (25, (.one (.cel (.bool (((!(decide (po = po2))) || (!(decide (sp = sp2)))) || (!(decide (re = re2)))))))), (24, (.one (.cel (.bool (((!(decide (po = po2))) || (!(decide (sp = sp2)))) || (!(decide (re = re2)))))))), (23, (.spec 18 Bool.false (.cel (.bool (!(decide (re = re2))))))), (22, (.spec 18 Bool.false (.cel (.int .i64 re2)))), (21, (.spec 18 Bool.false (.cel (.ptr 1 2)))), (20, (.spec 18 Bool.false (.cel (.int .i64 re)))), (19, (.spec 18 Bool.false (.cel (.ptr 0 2)))), (18, (.one (.cel (.bool ((!(decide (po = po2))) || (!(decide (sp = sp2)))))))), (17, (.one (.cel (.bool ((!(decide (po = po2))) || (!(decide (sp = sp2)))))))), (16, (.spec 11 Bool.false (.cel (.bool (!(decide (sp = sp2))))))), (15, (.spec 11 Bool.false (.cel (.int .i64 sp2)))), (14, (.spec 11 Bool.false (.cel (.ptr 1 1)))), (13, (.spec 11 Bool.false (.cel (.int .i64 sp)))), (12, (.spec 11 Bool.false (.cel (.ptr 0 1)))), (11, (.one (.cel (.bool (!(decide (po = po2))))))), (10, (.one (.cel (.bool (!(decide (po = po2))))))), (9, (.one (.cel (.int .i64 po2)))), (8, (.one (.cel (.ptr 1 0)))), (7, (.one (.cel (.int .i64 po)))), (6, (.one (.cel (.ptr 0 0)))), (4, (.one (.cel (.bool Bool.false)))), (3, (.one (.cel (.ptr 1 0)))), (2, (.one (.cel (.ptr 0 0)))), (0, (.one (.agg [(.int .i64 po), (.int .i64 sp), (.int .i64 re), (.int .i64 pr), (.int .i64 fl), (.row 0)]))), (1, (.one (.agg [(.int .i64 po2), (.int .i64 sp2), (.int .i64 re2), (.int .i64 pr2), (.int .i64 fl2), (.row 1)])))], [[(.int .i64 po), (.int .i64 sp), (.int .i64 re), (.int .i64 pr), (.int .i64 fl), (.row 0)], [(.int .i64 po2), (.int .i64 sp2), (.int .i64 re2), (.int .i64 pr2), (.int .i64 fl2), (.row 1)]], [⟨(.ints .i64 l), none⟩, ⟨(.ints .i64 m), none⟩], 0⟩
def rsame_L1_T (po : Int) (sp : Int) (re : Int) (pr : Int) (fl : Int) (l : List Int) (po2 : Int) (sp2 : Int) (re2 : Int) (pr2 : Int) (fl2 : Int) (m : List Int) (i : Int) : Prop := (cnd (decide (i < (((List.length l) : Nat) : Int)))
  (cnd (decide ((0 : Int) ≤ i))
    (cnd (decide (i < (((List.length l) : Nat) : Int)))
      (cnd (decide ((0 : Int) ≤ i))
        (cnd (decide (i < (((List.length m) : Nat) : Int)))
          (cnd (!(decide ((List.getD l (Int.toNat i) (0 : Int)) = (List.getD m (Int.toNat i) (0 : Int)))))
            (Bool.false = ((((((decide (po = po2)) && (decide (sp = sp2))) && (decide (re = re2))) && (decide (pr = pr2))) && (decide (fl = fl2))) && (decide (l = m))))
            ((rsame_L1_I po sp re pr fl l po2 sp2 re2 pr2 fl2 m (Go.IntKind.wrap Go.IntKind.i64 (i + (1 : Int)))) ∧ (((rsame_L1_m po sp re pr fl l po2 sp2 re2 pr2 fl2 m (Go.IntKind.wrap Go.IntKind.i64 (i + (1 : Int)))) < (rsame_L1_m po sp re pr fl l po2 sp2 re2 pr2 fl2 m i)) ∧ (((Go.IntKind.wrap Go.IntKind.i64 (i + (1 : Int))) = (Go.IntKind.wrap Go.IntKind.i64 (i + (1 : Int)))) ∧ ((Bool.false = Bool.false) ∧ (True ∧ (True ∧ (((po = po) ∧ ((sp = sp) ∧ ((re = re) ∧ ((pr = pr) ∧ ((fl = fl) ∧ True))))) ∧ (((po2 = po2) ∧ ((sp2 = sp2) ∧ ((re2 = re2) ∧ ((pr2 = pr2) ∧ ((fl2 = fl2) ∧ True))))) ∧ ((l = l) ∧ ((m = m) ∧ True)))))))))))
          False)
        False)
      False)
    False)
  (Bool.true = ((((((decide (po = po2)) && (decide (sp = sp2))) && (decide (re = re2))) && (decide (pr = pr2))) && (decide (fl = fl2))) && (decide (l = m)))))
set_option maxRecDepth 100000 in
theorem rsame_L1_tree (po : Int) (sp : Int) (re : Int) (pr : Int) (fl : Int) (l : List Int) (po2 : Int) (sp2 : Int) (re2 : Int) (pr2 : Int) (fl2 : Int) (m : List Int) (i : Int) : rsame_L1_T po sp re pr fl l po2 sp2 re2 pr2 fl2 m i = ex Try.prog (conOf []) (subC (bodyOf Try.f16) [1, 1, 0, 1, 0, 0]) (nextE (rsame_L1_N po sp re pr fl l po2 sp2 re2 pr2 fl2 m i) (kont Try.prog (conOf []) (bodyOf Try.f16) [1, 1, 0, 1, 0] (retPost Try.prog Try.f16 2 (rsame_res po sp re pr fl l po2 sp2 re2 pr2 fl2 m)))) (rsame_L1_F po sp re pr fl l po2 sp2 re2 pr2 fl2 m i) := by kernel_rfl
set_option maxRecDepth 100000 in
theorem rsame_L1_round (po : Int) (sp : Int) (re : Int) (pr : Int) (fl : Int) (l : List Int) (po2 : Int) (sp2 : Int) (re2 : Int) (pr2 : Int) (fl2 : Int) (m : List Int) (i : Int) (p0 : decide ((l.length : Int) ≤ 4611686018427387904) = true) (p1 : decide ((m.length : Int) ≤ 4611686018427387904) = true) (hI_L1 : rsame_L1_I po sp re pr fl l po2 sp2 re2 pr2 fl2 m i) : rsame_L1_T po sp re pr fl l po2 sp2 re2 pr2 fl2 m i := by
  obtain ⟨⟨a1, a2, a3, a6⟩, a4, a5⟩ := hI_L1
  unfold rsame_L1_T
  rw [a5, Bool.true_and, w64 (n := i + 1) (by omega) (by omega)]
  by_cases hl : i < l.length
  · have j1 : decide (0 ≤ i) = true := by simpa using a1
    have j2 : decide (i < (m.length : Int)) = true := by rw [decide_eq_true_eq]; omega
    simp only [hl, decide_true, j1, j2, cnd]
    by_cases hx : l.getD i.toNat 0 = m.getD i.toNat 0
    · simp only [hx, decide_true, Bool.not_true]
      refine ⟨⟨⟨by omega, by omega, a3, a6⟩, ?_, a5⟩, ?_, by simp⟩
      · rw [show (i + 1).toNat = i.toNat + 1 by omega, take_succ_getD _ _ (by omega), take_succ_getD _ _ (by omega), a4, hx]
      · unfold rsame_L1_m
        omega
    · have : ¬ l = m := fun h => hx (by rw [h])
      simp only [hx, this, decide_false, Bool.not_false]
  · rw [List.take_of_length_le (by omega), List.take_of_length_le (by omega)] at a4
    have j0 : decide (i < (l.length : Int)) = false := by simpa using hl
    simp only [j0, cnd]
    simp [a4]
set_option maxRecDepth 100000 in
theorem rsame_L1_entry1 (po : Int) (sp : Int) (re : Int) (pr : Int) (fl : Int) (l : List Int) (po2 : Int) (sp2 : Int) (re2 : Int) (pr2 : Int) (fl2 : Int) (m : List Int) : (((rsame_L1_I po sp re pr fl l po2 sp2 re2 pr2 fl2 m (0 : Int)) ∧ (((0 : Int) = (0 : Int)) ∧ ((Bool.false = Bool.false) ∧ (True ∧ (True ∧ (((po = po) ∧ ((sp = sp) ∧ ((re = re) ∧ ((pr = pr) ∧ ((fl = fl) ∧ True))))) ∧ (((po2 = po2) ∧ ((sp2 = sp2) ∧ ((re2 = re2) ∧ ((pr2 = pr2) ∧ ((fl2 = fl2) ∧ True))))) ∧ ((l = l) ∧ ((m = m) ∧ True)))))))))) = rsame_L1_E po sp re pr fl l po2 sp2 re2 pr2 fl2 m (rsame_L1_S1 po sp re pr fl l po2 sp2 re2 pr2 fl2 m) := by kernel_rfl
theorem rsame_L1_1 (po : Int) (sp : Int) (re : Int) (pr : Int) (fl : Int) (l : List Int) (po2 : Int) (sp2 : Int) (re2 : Int) (pr2 : Int) (fl2 : Int) (m : List Int) (p0 : decide ((l.length : Int) ≤ 4611686018427387904) = true) (p1 : decide ((m.length : Int) ≤ 4611686018427387904) = true) (h : ((rsame_L1_I po sp re pr fl l po2 sp2 re2 pr2 fl2 m (0 : Int)) ∧ (((0 : Int) = (0 : Int)) ∧ ((Bool.false = Bool.false) ∧ (True ∧ (True ∧ (((po = po) ∧ ((sp = sp) ∧ ((re = re) ∧ ((pr = pr) ∧ ((fl = fl) ∧ True))))) ∧ (((po2 = po2) ∧ ((sp2 = sp2) ∧ ((re2 = re2) ∧ ((pr2 = pr2) ∧ ((fl2 = fl2) ∧ True))))) ∧ ((l = l) ∧ ((m = m) ∧ True)))))))))) : LoopP (ex Try.prog (conOf []) (subC (bodyOf Try.f16) [1, 1, 0, 1, 0, 0])) (kont Try.prog (conOf []) (bodyOf Try.f16) [1, 1, 0, 1, 0] (retPost Try.prog Try.f16 2 (rsame_res po sp re pr fl l po2 sp2 re2 pr2 fl2 m))) (rsame_L1_S1 po sp re pr fl l po2 sp2 re2 pr2 fl2 m) := by
  have hE : rsame_L1_E po sp re pr fl l po2 sp2 re2 pr2 fl2 m (rsame_L1_S1 po sp re pr fl l po2 sp2 re2 pr2 fl2 m) := Eq.mp (rsame_L1_entry1 po sp re pr fl l po2 sp2 re2 pr2 fl2 m) h
  unfold rsame_L1_E at hE
  obtain ⟨i, hE⟩ := getI_of hE
  refine loop_of (α := (Int)) (fun xx_ => rsame_L1_F po sp re pr fl l po2 sp2 re2 pr2 fl2 m xx_) (fun xx_ => rsame_L1_I po sp re pr fl l po2 sp2 re2 pr2 fl2 m xx_) (fun xx_ => rsame_L1_m po sp re pr fl l po2 sp2 re2 pr2 fl2 m xx_) (fun xx_ => rsame_L1_N po sp re pr fl l po2 sp2 re2 pr2 fl2 m xx_) (fun xx_ => rsame_L1_T po sp re pr fl l po2 sp2 re2 pr2 fl2 m xx_) (fun xx_ s_ h => ?_) ⟨i, hE⟩ (fun xx_ => rsame_L1_tree po sp re pr fl l po2 sp2 re2 pr2 fl2 m xx_) (fun xx_ hI => rsame_L1_round po sp re pr fl l po2 sp2 re2 pr2 fl2 m xx_ p0 p1 hI)
  unfold rsame_L1_N at h
  obtain ⟨i, h⟩ := getI_of h
  exact ⟨i, h⟩
set_option maxRecDepth 100000 in
theorem rsame_tree (po : Int) (sp : Int) (re : Int) (pr : Int) (fl : Int) (l : List Int) (po2 : Int) (sp2 : Int) (re2 : Int) (pr2 : Int) (fl2 : Int) (m : List Int) : ((cnd ((((((!(decide (po = po2))) || (!(decide (sp = sp2)))) || (!(decide (re = re2)))) || (!(decide (pr = pr2)))) || (!(decide (fl = fl2)))) || (!(decide ((((List.length l) : Nat) : Int) = (((List.length m) : Nat) : Int)))))
  (Bool.false = ((((((decide (po = po2)) && (decide (sp = sp2))) && (decide (re = re2))) && (decide (pr = pr2))) && (decide (fl = fl2))) && (decide (l = m))))
  (LoopP (ex Try.prog (conOf []) (subC (bodyOf Try.f16) [1, 1, 0, 1, 0, 0])) (kont Try.prog (conOf []) (bodyOf Try.f16) [1, 1, 0, 1, 0] (retPost Try.prog Try.f16 2 (rsame_res po sp re pr fl l po2 sp2 re2 pr2 fl2 m))) (rsame_L1_S1 po sp re pr fl l po2 sp2 re2 pr2 fl2 m)))) = EXD Try.prog (conOf []) Try.f16 [.agg [.int .i64 po, .int .i64 sp, .int .i64 re, .int .i64 pr, .int .i64 fl, .row 0], .agg [.int .i64 po2, .int .i64 sp2, .int .i64 re2, .int .i64 pr2, .int .i64 fl2, .row 1]] [.ints .i64 l, .ints .i64 m] [] (rsame_res po sp re pr fl l po2 sp2 re2 pr2 fl2 m) := by kernel_rfl
theorem rsame_holds (po : Int) (sp : Int) (re : Int) (pr : Int) (fl : Int) (l : List Int) (po2 : Int) (sp2 : Int) (re2 : Int) (pr2 : Int) (fl2 : Int) (m : List Int) (p0 : decide ((l.length : Int) ≤ 4611686018427387904) = true) (p1 : decide ((m.length : Int) ≤ 4611686018427387904) = true) : (cnd ((((((!(decide (po = po2))) || (!(decide (sp = sp2)))) || (!(decide (re = re2)))) || (!(decide (pr = pr2)))) || (!(decide (fl = fl2)))) || (!(decide ((((List.length l) : Nat) : Int) = (((List.length m) : Nat) : Int)))))
  (Bool.false = ((((((decide (po = po2)) && (decide (sp = sp2))) && (decide (re = re2))) && (decide (pr = pr2))) && (decide (fl = fl2))) && (decide (l = m))))
  (LoopP (ex Try.prog (conOf []) (subC (bodyOf Try.f16) [1, 1, 0, 1, 0, 0])) (kont Try.prog (conOf []) (bodyOf Try.f16) [1, 1, 0, 1, 0] (retPost Try.prog Try.f16 2 (rsame_res po sp re pr fl l po2 sp2 re2 pr2 fl2 m))) (rsame_L1_S1 po sp re pr fl l po2 sp2 re2 pr2 fl2 m))) := by
  by_cases h : (decide (po = po2) && decide (sp = sp2) && decide (re = re2) && decide (pr = pr2) && decide (fl = fl2)) = true ∧ l.length = m.length
  · obtain ⟨h1, h2⟩ := h
    have j : ((((((!decide (po = po2)) || (!decide (sp = sp2))) || (!decide (re = re2))) || (!decide (pr = pr2))) || (!decide (fl = fl2))) || (!decide ((l.length : Int) = (m.length : Int)))) = false := by
      have h1' := h1
      simp only [Bool.and_eq_true, decide_eq_true_eq] at h1'
      obtain ⟨⟨⟨⟨rfl, rfl⟩, rfl⟩, rfl⟩, rfl⟩ := h1'
      simp [h2]
    simp only [j, cnd]
    simp only [decide_eq_true_eq] at p0 p1
    exact rsame_L1_1 po sp re pr fl l po2 sp2 re2 pr2 fl2 m (decide_eq_true p0) (decide_eq_true p1) ⟨⟨⟨by omega, by omega, h2, by omega⟩, by simp, h1⟩, by simp⟩
  · have hne : (decide (po = po2) && decide (sp = sp2) && decide (re = re2) && decide (pr = pr2) && decide (fl = fl2) && decide (l = m)) = false := by
      rw [Bool.eq_false_iff]
      intro h3
      simp only [Bool.and_eq_true, decide_eq_true_eq] at h3
      refine h ⟨?_, by rw [h3.2]⟩
      simp only [Bool.and_eq_true, decide_eq_true_eq]
      exact h3.1
    have j : ((((((!decide (po = po2)) || (!decide (sp = sp2))) || (!decide (re = re2))) || (!decide (pr = pr2))) || (!decide (fl = fl2))) || (!decide ((l.length : Int) = (m.length : Int)))) = true := by
      rw [← Bool.not_eq_false]
      intro h3
      simp only [Bool.or_eq_false_iff, Bool.not_eq_false', decide_eq_true_eq] at h3
      refine h ⟨?_, by omega⟩
      simp only [Bool.and_eq_true, decide_eq_true_eq]
      exact h3.1
    rw [hne]
    simp only [j, cnd]
set_option maxHeartbeats 2000000 in
theorem rsame_ok : SoundEnt Try.prog rsame_e := by
  refine ent_of_ex (Γ := (conOf [])) (conOf_sound snil) (by kernel_rfl) Try.func16 (by kernel_rfl) (by kernel_rfl) (fun args rows caps res h ho => ?_)
  change rsame_go args rows caps = some res at h
  unfold rsame_go at h
  split at h
  · simp only [Option.some.injEq] at h
    subst h
    rename_i q0_ q1_ q2_ q3_ q4_ q6_ q7_ q8_ q9_ q10_ q5_ q11_
    obtain ⟨p0, p1, _⟩ := ho
    exact EX.of (rsame_tree q0_ q1_ q2_ q3_ q4_ q5_ q6_ q7_ q8_ q9_ q10_ q11_) (rsame_holds q0_ q1_ q2_ q3_ q4_ q5_ q6_ q7_ q8_ q9_ q10_ q11_ p0 p1)
  · cases h
def lbody_res : CRes := ⟨[], .one (.agg [.int .i64 (1000), .int .i64 (0), .int .i64 (1), .int .i64 (0), .int .i64 (256), .int .i64 (512), .int .i64 (2)]), []⟩
def lbody_go : List TV → List RowA → List (List CV) → Option CRes := fun args rows caps =>
  match args, rows, caps with
  | [], [], [] => some (lbody_res )
  | _, _, _ => none
def lbody_e : Ent := ⟨28, [], lbody_go⟩
set_option maxRecDepth 100000 in
theorem lbody_tree  : ((((1000 : Int) = (1000 : Int)) ∧ (((0 : Int) = (0 : Int)) ∧ (((1 : Int) = (1 : Int)) ∧ (((0 : Int) = (0 : Int)) ∧ (((256 : Int) = (256 : Int)) ∧ (((512 : Int) = (512 : Int)) ∧ ((2 : Int) = (2 : Int))))))))) = EXD Try.prog (conOf []) Try.f28 [] [] [] (lbody_res ) := by kernel_rfl
theorem lbody_holds   : (((1000 : Int) = (1000 : Int)) ∧ (((0 : Int) = (0 : Int)) ∧ (((1 : Int) = (1 : Int)) ∧ (((0 : Int) = (0 : Int)) ∧ (((256 : Int) = (256 : Int)) ∧ (((512 : Int) = (512 : Int)) ∧ ((2 : Int) = (2 : Int)))))))) := by
  simp
set_option maxHeartbeats 2000000 in
theorem lbody_ok : SoundEnt Try.prog lbody_e := by
  refine ent_of_ex (Γ := (conOf [])) (conOf_sound snil) (by kernel_rfl) Try.func28 (by kernel_rfl) (by kernel_rfl) (fun args rows caps res h ho => ?_)
  change lbody_go args rows caps = some res at h
  unfold lbody_go at h
  split at h
  · simp only [Option.some.injEq] at h
    subst h
    skip
    skip
    exact EX.of (lbody_tree ) (lbody_holds )
  · cases h
def awake_res : CRes := ⟨[], .one (.cel (.bool (true))), []⟩
def awake_go : List TV → List RowA → List (List CV) → Option CRes := fun args rows caps =>
  match args, rows, caps with
  | [], [], [] => some (awake_res )
  | _, _, _ => none
def awake_e : Ent := ⟨12, [], awake_go⟩
set_option maxRecDepth 100000 in
theorem awake_tree  : ((((((Bool.true = Bool.true) ∧ (Bool.true = Bool.true)) ∧ ((Bool.true = Bool.true) ∧ (Bool.true = Bool.true))) ∧ (((Bool.true = Bool.true) ∧ (Bool.true = Bool.true)) ∧ ((Bool.true = Bool.true) ∧ (Bool.true = Bool.true)))) ∧ (((((Bool.true = Bool.true) ∧ (Bool.true = Bool.true)) ∧ ((Bool.true = Bool.true) ∧ (Bool.true = Bool.true))) ∧ (((Bool.true = Bool.true) ∧ (Bool.true = Bool.true)) ∧ ((Bool.true = Bool.true) ∧ (Bool.true = Bool.true)))) ∧ ((((Bool.true = Bool.true) ∧ (Bool.true = Bool.true)) ∧ ((Bool.true = Bool.true) ∧ (Bool.true = Bool.true))) ∧ (((Bool.true = Bool.true) ∧ (Bool.true = Bool.true)) ∧ ((Bool.true = Bool.true) ∧ (Bool.true = Bool.true))))))) = EXD Try.prog (conOf [lbody_e, pnew_e, pstep_e, pinject_e]) Try.f12 [] [] [] (awake_res ) := by kernel_rfl
theorem awake_holds   : (((((Bool.true = Bool.true) ∧ (Bool.true = Bool.true)) ∧ ((Bool.true = Bool.true) ∧ (Bool.true = Bool.true))) ∧ (((Bool.true = Bool.true) ∧ (Bool.true = Bool.true)) ∧ ((Bool.true = Bool.true) ∧ (Bool.true = Bool.true)))) ∧ (((((Bool.true = Bool.true) ∧ (Bool.true = Bool.true)) ∧ ((Bool.true = Bool.true) ∧ (Bool.true = Bool.true))) ∧ (((Bool.true = Bool.true) ∧ (Bool.true = Bool.true)) ∧ ((Bool.true = Bool.true) ∧ (Bool.true = Bool.true)))) ∧ ((((Bool.true = Bool.true) ∧ (Bool.true = Bool.true)) ∧ ((Bool.true = Bool.true) ∧ (Bool.true = Bool.true))) ∧ (((Bool.true = Bool.true) ∧ (Bool.true = Bool.true)) ∧ ((Bool.true = Bool.true) ∧ (Bool.true = Bool.true)))))) := by
  simp
set_option maxHeartbeats 2000000 in
theorem awake_ok : SoundEnt Try.prog awake_e := by
  refine ent_of_ex (Γ := (conOf [lbody_e, pnew_e, pstep_e, pinject_e])) (conOf_sound (scons lbody_ok (scons pnew_ok (scons pstep_ok (scons pinject_ok snil))))) (by kernel_rfl) Try.func12 (by kernel_rfl) (by kernel_rfl) (fun args rows caps res h ho => ?_)
  change awake_go args rows caps = some res at h
  unfold awake_go at h
  split at h
  · simp only [Option.some.injEq] at h
    subst h
    skip
    skip
    exact EX.of (awake_tree ) (awake_holds )
  · cases h
end Go.Proofs.Ytnioihmchajmlaa

