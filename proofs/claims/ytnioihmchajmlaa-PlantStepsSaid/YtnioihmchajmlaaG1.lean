/- The engine's plant: what its functions come to. -/
import Derived.Test.YtnioihmchajmlaaAf
import Derived.Test.YtnioihmchajmlaaAm
import Derived.Test.YtnioihmchajmlaaOr
namespace Go.Proofs.Ytnioihmchajmlaa
set_option linter.unusedVariables false
set_option linter.unusedSimpArgs false
open Go.RowKit

def btw (x lo hi : Int) : Bool := decide (lo ≤ x) && decide (x ≤ hi)
theorem btw_iff {x lo hi : Int} : btw x lo hi = true ↔ lo ≤ x ∧ x ≤ hi := by simp [btw]
def bOk (bi bf bv bt bm be bd : Int) : Bool := btw bi 100 1048576 && btw bf 0 65536 && btw bt 0 65536 && btw bv 1 65536 && btw bm 0 1023 && btw be 1 1024 && btw bd 0 20
theorem bOk_iff {bi bf bv bt bm be bd : Int} : bOk bi bf bv bt bm be bd = true ↔ (100 ≤ bi ∧ bi ≤ 1048576) ∧ (0 ≤ bf ∧ bf ≤ 65536) ∧ (0 ≤ bt ∧ bt ≤ 65536) ∧ (1 ≤ bv ∧ bv ≤ 65536) ∧ (0 ≤ bm ∧ bm ≤ 1023) ∧ (1 ≤ be ∧ be ≤ 1024) ∧ (0 ≤ bd ∧ bd ≤ 20) := by
  simp only [bOk, Bool.and_eq_true, btw_iff, and_assoc]
def gH (bi bd po sp re pr fl len : Int) : Bool := btw po 0 3019898879 && btw sp 0 262144 && btw re 0 (bi - 1) && btw pr 50 1013 && btw fl 0 2147483648 && decide (len ≤ bd + 1)
theorem gH_iff {bi bd po sp re pr fl len : Int} : gH bi bd po sp re pr fl len = true ↔ (0 ≤ po ∧ po ≤ 3019898879) ∧ (0 ≤ sp ∧ sp ≤ 262144) ∧ (0 ≤ re ∧ re ≤ bi - 1) ∧ (50 ≤ pr ∧ pr ≤ 1013) ∧ (0 ≤ fl ∧ fl ≤ 2147483648) ∧ len ≤ bd + 1 := by
  simp only [gH, Bool.and_eq_true, btw_iff, decide_eq_true_eq, and_assoc]
def pV (x : Int) : Bool := btw x 500 2000
def gB (bi bd po sp re pr fl : Int) (l : List Int) : Bool := gH bi bd po sp re pr fl l.length && l.all pV
def kE (e v : Int) : Int := if e = 0 then v else 0
def kL (e : Int) (l : List Int) : List Int := if e = 0 then l else []
theorem kE_zero (v : Int) : kE 0 v = v := rfl
theorem kE_ne {e : Int} (v : Int) (h : e ≠ 0) : kE e v = 0 := if_neg h
theorem kL_zero (l : List Int) : kL 0 l = l := rfl
theorem kL_ne {e : Int} (l : List Int) (h : e ≠ 0) : kL e l = [] := if_neg h
theorem take_succ_getD (l : List Int) (i : Nat) (h : i < l.length) : l.take (i + 1) = l.take i ++ [l.getD i 0] := by
  rw [List.take_add_one, List.getElem?_eq_getElem h, List.getD_eq_getElem?_getD, List.getElem?_eq_getElem h]; rfl
theorem all_take {p : Int → Bool} {l : List Int} {i : Int} (h0 : 0 ≤ i) (h1 : i < l.length) (h : (l.take i.toNat).all p = true) (hx : p (l.getD i.toNat 0) = true) : (l.take (i + 1).toNat).all p = true := by
  rw [show (i + 1).toNat = i.toNat + 1 by omega, take_succ_getD _ _ (by omega)]
  simp only [List.all_append, h, List.all_cons, hx, List.all_nil, Bool.and_true]
theorem all_take_not {p : Int → Bool} {l : List Int} {i : Nat} (h1 : i < l.length) (hx : p (l.getD i 0) = false) : l.all p = false := by
  rw [Bool.eq_false_iff]
  intro h
  rw [List.all_eq_true] at h
  have hm : l.getD i 0 ∈ l := by
    rw [List.getD_eq_getElem?_getD, List.getElem?_eq_getElem h1]
    exact List.getElem_mem h1
  rw [h _ hm] at hx
  cases hx
theorem mulN {a b A B : Int} (h0 : 0 ≤ a) (h1 : a ≤ A) (h2 : 0 ≤ b) (h3 : b ≤ B) : 0 ≤ a * b ∧ a * b ≤ A * B := ⟨Int.mul_nonneg h0 h2, Int.mul_le_mul h1 h3 h2 (by omega)⟩
theorem mulS {x k A B : Int} (h1 : -A ≤ x) (h2 : x ≤ A) (h3 : 0 ≤ k) (h4 : k ≤ B) (hA : 0 ≤ A) : -(A * B) ≤ x * k ∧ x * k ≤ A * B := by
  have h5 : A * k ≤ A * B := Int.mul_le_mul_of_nonneg_left h4 hA
  have h6 : x * k ≤ A * k := Int.mul_le_mul_of_nonneg_right h2 h3
  have h7 : (-A) * k ≤ x * k := Int.mul_le_mul_of_nonneg_right h1 h3
  rw [Int.neg_mul] at h7
  omega
theorem quo_s {a b A : Int} (h0 : -A ≤ a) (h1 : a ≤ A) (h2 : 1 ≤ b) (hA : 0 ≤ A) : -A ≤ a / b ∧ a / b ≤ A := by
  have h3 := Int.mul_le_mul_of_nonneg_left h2 hA
  constructor
  · refine Int.le_ediv_of_mul_le (by omega) ?_
    rw [Int.neg_mul]; omega
  · exact Int.ediv_le_of_le_mul (by omega) (by omega)
/-! A step. -/
def nS (bf sp re tq ld tk : Int) : Int := (tq - ld - bf * sp / 65536) * tk + re
def rS (bi bf sp re tq ld tk : Int) : Int := sp + nS bf sp re tq ld tk / bi
def xSp (bi bf sp re tq ld tk : Int) : Int := min (max (rS bi bf sp re tq ld tk) 0) 262144
def xRe (bi bf sp re tq ld tk : Int) : Int := if rS bi bf sp re tq ld tk < 0 ∨ 262144 < rS bi bf sp re tq ld tk then 0 else nS bf sp re tq ld tk % bi
def xPo (po sp tk : Int) : Int := (po + sp * tk) % 3019898880
def dPr (bv bt sp pr t tk : Int) : Int := ((bt * t * (1013 - pr) / 1000 - sp * pr / 1024) * tk) / (65536 * bv)
def xPr (bv bt sp pr t tk : Int) : Int := min (max (pr + dPr bv bt sp pr t tk) 50) 1013
def aOk (t tq ld tk : Int) : Bool := btw t 0 1000 && btw tq (-5000) 10000 && btw ld (-10000) 10000 && btw tk 1 10000
theorem aOk_iff {t tq ld tk : Int} : aOk t tq ld tk = true ↔ (0 ≤ t ∧ t ≤ 1000) ∧ (-5000 ≤ tq ∧ tq ≤ 10000) ∧ (-10000 ≤ ld ∧ ld ≤ 10000) ∧ (1 ≤ tk ∧ tk ≤ 10000) := by
  simp only [aOk, Bool.and_eq_true, btw_iff, and_assoc]
def stE (b g a : Bool) : Int := if b && g then (if a then 0 else 2) else 1
theorem stE_zero {b g a : Bool} : stE b g a = 0 ↔ b = true ∧ g = true ∧ a = true := by cases b <;> cases g <;> cases a <;> decide
/-! An injection. -/
def jSt (bm fu : Int) : Int := fu * bm / 1024
def jLe (be fl : Int) : Int := fl * be / 1024
def jC (bm be fl fu : Int) : Int := fu - jSt bm fu + jLe be fl
def jFl (bm be fl fu : Int) : Int := fl + (jSt bm fu - jLe be fl)
def jMx (bm be fl fu ai : Int) : Int := if 0 < jC bm be fl fu then min (max (10000 * ai / (147 * jC bm be fl fu)) 500) 2000 else 2000
def jL (bd : Int) (l : List Int) (m : Int) : List Int := if bd + 1 < ((l ++ [m]).length : Int) then (l ++ [m]).drop 1 else l ++ [m]
def fOk (fu ai : Int) : Bool := btw fu 0 1048576 && btw ai 0 1048576
theorem fOk_iff {fu ai : Int} : fOk fu ai = true ↔ (0 ≤ fu ∧ fu ≤ 1048576) ∧ (0 ≤ ai ∧ ai ≤ 1048576) := by
  simp only [fOk, Bool.and_eq_true, btw_iff]

def within_res (x : Int) (lo : Int) (hi : Int) : CRes := ⟨[], .one (.cel (.bool (btw x lo hi))), []⟩
def within_go : List TV → List RowA → List (List CV) → Option CRes := fun args rows caps =>
  match args, rows, caps with
  | [.cel (.int .i64 x), .cel (.int .i64 lo), .cel (.int .i64 hi)], [], [] => some (within_res x lo hi)
  | _, _, _ => none
def within_e : Ent := ⟨29, [], within_go⟩
set_option maxRecDepth 100000 in
theorem within_tree (x : Int) (lo : Int) (hi : Int) : ((((decide (lo ≤ x)) && (decide (x ≤ hi))) = (btw x lo hi))) = EXD Try.prog (conOf []) Try.f29 [.cel (.int .i64 x), .cel (.int .i64 lo), .cel (.int .i64 hi)] [] [] (within_res x lo hi) := by kernel_rfl
theorem within_holds (x : Int) (lo : Int) (hi : Int)  : (((decide (lo ≤ x)) && (decide (x ≤ hi))) = (btw x lo hi)) := by
  rfl
set_option maxHeartbeats 2000000 in
theorem within_ok : SoundEnt Try.prog within_e := by
  refine ent_of_ex (Γ := (conOf [])) (conOf_sound snil) (by kernel_rfl) Try.func29 (by kernel_rfl) (by kernel_rfl) (fun args rows caps res h ho => ?_)
  change within_go args rows caps = some res at h
  unfold within_go at h
  split at h
  · simp only [Option.some.injEq] at h
    subst h
    rename_i q0_ q1_ q2_
    skip
    exact EX.of (within_tree q0_ q1_ q2_) (within_holds q0_ q1_ q2_)
  · cases h
def pvalid_res (bi : Int) (bf : Int) (bv : Int) (bt : Int) (bm : Int) (be : Int) (bd : Int) : CRes := ⟨[], .one (.cel (.bool (bOk bi bf bv bt bm be bd))), []⟩
def pvalid_go : List TV → List RowA → List (List CV) → Option CRes := fun args rows caps =>
  match args, rows, caps with
  | [.agg [.int .i64 bi, .int .i64 bf, .int .i64 bv, .int .i64 bt, .int .i64 bm, .int .i64 be, .int .i64 bd]], [], [] => some (pvalid_res bi bf bv bt bm be bd)
  | _, _, _ => none
def pvalid_e : Ent := ⟨20, [], pvalid_go⟩
set_option maxRecDepth 100000 in
theorem pvalid_tree (bi : Int) (bf : Int) (bv : Int) (bt : Int) (bm : Int) (be : Int) (bd : Int) : (((((((((btw bi (100 : Int) (1048576 : Int)) && (btw bf (0 : Int) (65536 : Int))) && (btw bt (0 : Int) (65536 : Int))) && (btw bv (1 : Int) (65536 : Int))) && (btw bm (0 : Int) (1023 : Int))) && (btw be (1 : Int) (1024 : Int))) && (btw bd (0 : Int) (20 : Int))) = (bOk bi bf bv bt bm be bd))) = EXD Try.prog (conOf [within_e]) Try.f20 [.agg [.int .i64 bi, .int .i64 bf, .int .i64 bv, .int .i64 bt, .int .i64 bm, .int .i64 be, .int .i64 bd]] [] [] (pvalid_res bi bf bv bt bm be bd) := by kernel_rfl
theorem pvalid_holds (bi : Int) (bf : Int) (bv : Int) (bt : Int) (bm : Int) (be : Int) (bd : Int)  : ((((((((btw bi (100 : Int) (1048576 : Int)) && (btw bf (0 : Int) (65536 : Int))) && (btw bt (0 : Int) (65536 : Int))) && (btw bv (1 : Int) (65536 : Int))) && (btw bm (0 : Int) (1023 : Int))) && (btw be (1 : Int) (1024 : Int))) && (btw bd (0 : Int) (20 : Int))) = (bOk bi bf bv bt bm be bd)) := by
  rfl
set_option maxHeartbeats 2000000 in
theorem pvalid_ok : SoundEnt Try.prog pvalid_e := by
  refine ent_of_ex (Γ := (conOf [within_e])) (conOf_sound (scons within_ok snil)) (by kernel_rfl) Try.func20 (by kernel_rfl) (by kernel_rfl) (fun args rows caps res h ho => ?_)
  change pvalid_go args rows caps = some res at h
  unfold pvalid_go at h
  split at h
  · simp only [Option.some.injEq] at h
    subst h
    rename_i q0_ q1_ q2_ q3_ q4_ q5_ q6_
    skip
    exact EX.of (pvalid_tree q0_ q1_ q2_ q3_ q4_ q5_ q6_) (pvalid_holds q0_ q1_ q2_ q3_ q4_ q5_ q6_)
  · cases h
def pgood_res (bi : Int) (bf : Int) (bv : Int) (bt : Int) (bm : Int) (be : Int) (bd : Int) (po : Int) (sp : Int) (re : Int) (pr : Int) (fl : Int) (l : List Int) : CRes := ⟨[], .one (.cel (.bool (bOk bi bf bv bt bm be bd && gB bi bd po sp re pr fl l))), []⟩
def pgood_go : List TV → List RowA → List (List CV) → Option CRes := fun args rows caps =>
  match args, rows, caps with
  | [.agg [.int .i64 bi, .int .i64 bf, .int .i64 bv, .int .i64 bt, .int .i64 bm, .int .i64 be, .int .i64 bd], .agg [.int .i64 po, .int .i64 sp, .int .i64 re, .int .i64 pr, .int .i64 fl, .row 0]], [.ints .i64 l], [] => some (pgood_res bi bf bv bt bm be bd po sp re pr fl l)
  | _, _, _ => none
def pgood_e : Ent := ⟨22, [.ints .i64 []], pgood_go⟩
def pgood_L1_F (bi : Int) (bf : Int) (bv : Int) (bt : Int) (bm : Int) (be : Int) (bd : Int) (po : Int) (sp : Int) (re : Int) (pr : Int) (fl : Int) (l : List Int) (i : Int) : St := ⟨63, [], [(55, (.one (.cel (.int .i64 i)))), (54, (.one (.cel (.int .i64 (((List.length l) : Nat) : Int))))), (53, (.one (.cel (.row 0)))), (4, (.one (.cel (.bool Bool.false))))], [[(.int .i64 bi), (.int .i64 bf), (.int .i64 bv), (.int .i64 bt), (.int .i64 bm), (.int .i64 be), (.int .i64 bd)], [(.int .i64 po), (.int .i64 sp), (.int .i64 re), (.int .i64 pr), (.int .i64 fl), (.row 0)]], [⟨(.ints .i64 l), none⟩], 0⟩
def pgood_L1_I (bi : Int) (bf : Int) (bv : Int) (bt : Int) (bm : Int) (be : Int) (bd : Int) (po : Int) (sp : Int) (re : Int) (pr : Int) (fl : Int) (l : List Int) (i : Int) : Prop := (0 ≤ i ∧ i ≤ l.length ∧ (l.length : Int) ≤ 21) ∧ ((bOk bi bf bv bt bm be bd && gH bi bd po sp re pr fl l.length) = true) ∧ ((l.take i.toNat).all pV = true)
def pgood_L1_m (bi : Int) (bf : Int) (bv : Int) (bt : Int) (bm : Int) (be : Int) (bd : Int) (po : Int) (sp : Int) (re : Int) (pr : Int) (fl : Int) (l : List Int) (i : Int) : Nat := (l.length - i).toNat
def pgood_L1_N (bi : Int) (bf : Int) (bv : Int) (bt : Int) (bm : Int) (be : Int) (bd : Int) (po : Int) (sp : Int) (re : Int) (pr : Int) (fl : Int) (l : List Int) (i' : Int) (st_ : St) : Prop := getI st_ 55 fun i => pgood_L1_I bi bf bv bt bm be bd po sp re pr fl l i ∧ pgood_L1_m bi bf bv bt bm be bd po sp re pr fl l i < pgood_L1_m bi bf bv bt bm be bd po sp re pr fl l i' ∧ SubA st_ (pgood_L1_F bi bf bv bt bm be bd po sp re pr fl l i)
def pgood_L1_E (bi : Int) (bf : Int) (bv : Int) (bt : Int) (bm : Int) (be : Int) (bd : Int) (po : Int) (sp : Int) (re : Int) (pr : Int) (fl : Int) (l : List Int) (st_ : St) : Prop := getI st_ 55 fun i => pgood_L1_I bi bf bv bt bm be bd po sp re pr fl l i ∧ SubA st_ (pgood_L1_F bi bf bv bt bm be bd po sp re pr fl l i)
def pgood_L1_S1 (bi : Int) (bf : Int) (bv : Int) (bt : Int) (bm : Int) (be : Int) (bd : Int) (po : Int) (sp : Int) (re : Int) (pr : Int) (fl : Int) (l : List Int) : St := ⟨63, [43, 37, 31, 22, 16, 10], [(55, (.one (.cel (.int .i64 (0 : Int))))), (54, (.one (.cel (.int .i64 (((List.length l) : Nat) : Int))))), (53, (.one (.cel (.row 0)))), (52, (.one (.cel (.ptr 1 5)))), (51, (.one (.cel (.bool (((((((!(bOk bi bf bv bt bm be bd)) || (!(btw po (0 : Int) (3019898879 : Int)))) || (!(btw sp (0 : Int) (262144 : Int)))) || (!(btw re (0 : Int) (Go.IntKind.wrap Go.IntKind.i64 (bi - (1 : Int)))))) || (!(btw pr (50 : Int) (1013 : Int)))) || (!(btw fl (0 : Int) (2147483648 : Int)))) || (decide ((Go.IntKind.wrap Go.IntKind.i64 (bd + (1 : Int))) < (((List.length l) : Nat) : Int)))))))), (50, (.spec 43 Bool.false (.cel (.bool (decide ((Go.IntKind.wrap Go.IntKind.i64 (bd + (1 : Int))) < (((List.length l) : Nat) : Int))))))), (49, (.spec 43 Bool.false (.cel (.int .i64 (Go.IntKind.wrap Go.IntKind.i64 (bd + (1 : Int))))))), (48, (.spec 43 Bool.false (.cel (.int .i64 bd)))), (47, (.spec 43 Bool.false (.cel (.ptr 0 6)))), (46, (.spec 43 Bool.false (.cel (.int .i64 (((List.length l) : Nat) : Int))))), (45, (.spec 43 Bool.false (.cel (.row 0)))), (44, (.spec 43 Bool.false (.cel (.ptr 1 5)))), (43, (.one (.cel (.bool ((((((!(bOk bi bf bv bt bm be bd)) || (!(btw po (0 : Int) (3019898879 : Int)))) || (!(btw sp (0 : Int) (262144 : Int)))) || (!(btw re (0 : Int) (Go.IntKind.wrap Go.IntKind.i64 (bi - (1 : Int)))))) || (!(btw pr (50 : Int) (1013 : Int)))) || (!(btw fl (0 : Int) (2147483648 : Int)))))))), (42, (.one (.cel (.bool ((((((!(bOk bi bf bv bt bm be bd)) || (!(btw po (0 : Int) (3019898879 : Int)))) || (!(btw sp (0 : Int) (262144 : Int)))) || (!(btw re (0 : Int) (Go.IntKind.wrap Go.IntKind.i64 (bi - (1 : Int)))))) || (!(btw pr (50 : Int) (1013 : Int)))) || (!(btw fl (0 : Int) (2147483648 : Int)))))))), (41, (.spec 37 Bool.false (.cel (.bool (!(btw fl (0 : Int) (2147483648 : Int))))))), (40, (.spec 37 Bool.false (.cel (.bool (btw fl (0 : Int) (2147483648 : Int)))))), (39, (.spec 37 Bool.false (.cel (.int .i64 fl)))), (38, (.spec 37 Bool.false (.cel (.ptr 1 4)))), (37, (.one (.cel (.bool (((((!(bOk bi bf bv bt bm be bd)) || (!(btw po (0 : Int) (3019898879 : Int)))) || (!(btw sp (0 : Int) (262144 : Int)))) || (!(btw re (0 : Int) (Go.IntKind.wrap Go.IntKind.i64 (bi - (1 : Int)))))) || (!(btw pr (50 : Int) (1013 : Int)))))))), (36, (.one (.cel (.bool (((((!(bOk bi bf bv bt bm be bd)) || (!(btw po (0 : Int) (3019898879 : Int)))) || (!(btw sp (0 : Int) (262144 : Int)))) || (!(btw re (0 : Int) (Go.IntKind.wrap Go.IntKind.i64 (bi - (1 : Int)))))) || (!(btw pr (50 : Int) (1013 : Int)))))))), (35, (.spec 31 Bool.false (.cel (.bool (!(btw pr (50 : Int) (1013 : Int))))))), (34, (.spec 31 Bool.false (.cel (.bool (btw pr (50 : Int) (1013 : Int)))))), (33, (.spec 31 Bool.false (.cel (.int .i64 pr)))), (32, (.spec 31 Bool.false (.cel (.ptr 1 3)))), (31, (.one (.cel (.bool ((((!(bOk bi bf bv bt bm be bd)) || (!(btw po (0 : Int) (3019898879 : Int)))) || (!(btw sp (0 : Int) (262144 : Int)))) || (!(btw re (0 : Int) (Go.IntKind.wrap Go.IntKind.i64 (bi - (1 : Int)))))))))), (30, (.one (.cel (.bool ((((!(bOk bi bf bv bt bm be bd)) || (!(btw po (0 : Int) (3019898879 : Int)))) || (!(btw sp (0 : Int) (262144 : Int)))) || (!(btw re (0 : Int) (Go.IntKind.wrap Go.IntKind.i64 (bi - (1 : Int)))))))))), (29, (.spec 22 Bool.false (.cel (.bool (!(btw re (0 : Int) (Go.IntKind.wrap Go.IntKind.i64 (bi - (1 : Int))))))))), (28, (.spec 22 Bool.false (.cel (.bool (btw re (0 : Int) (Go.IntKind.wrap Go.IntKind.i64 (bi - (1 : Int)))))))), (27, (.spec 22 Bool.false (.cel (.int .i64 (Go.IntKind.wrap Go.IntKind.i64 (bi - (1 : Int))))))), (26, (.spec 22 Bool.false (.cel (.int .i64 bi)))), (25, (.spec 22 Bool.false (.cel (.ptr 0 0)))), (24, (.spec 22 Bool.false (.cel (.int .i64 re)))), (23, (.spec 22 Bool.false (.cel (.ptr 1 2)))), (22, (.one (.cel (.bool (((!(bOk bi bf bv bt bm be bd)) || (!(btw po (0 : Int) (3019898879 : Int)))) || (!(btw sp (0 : Int) (262144 : Int)))))))), (21, (.one (.cel (.bool (((!(bOk bi bf bv bt bm be bd)) || (!(btw po (0 : Int) (3019898879 : Int)))) || (!(btw sp (0 : Int) (262144 : Int)))))))), (20, (.spec 16 Bool.false (.cel (.bool (!(btw sp (0 : Int) (262144 : Int))))))), (19, (.spec 16 Bool.false (.cel (.bool (btw sp (0 : Int) (262144 : Int)))))), (18, (.spec 16 Bool.false (.cel (.int .i64 sp)))), (17, (.spec 16 Bool.false (.cel (.ptr 1 1)))), (16, (.one (.cel (.bool ((!(bOk bi bf bv bt bm be bd)) || (!(btw po (0 : Int) (3019898879 : Int)))))))), (15, (.one (.cel (.bool ((!(bOk bi bf bv bt bm be bd)) || (!(btw po (0 : Int) (3019898879 : Int)))))))), (14, (.spec 10 Bool.false (.cel (.bool (!(btw po (0 : Int) (3019898879 : Int))))))), (13, (.spec 10 Bool.false (.cel (.bool (btw po (0 : Int) (3019898879 : Int)))))), (12, (.spec 10 Bool.false (.cel (.int .i64 po)))), (11, (.spec 10 Bool.false (.cel (.ptr 1 0)))), (10, (.one (.cel (.bool (!(bOk bi bf bv bt bm be bd)))))), (9, (.one (.cel (.bool (!(bOk bi bf bv bt bm be bd)))))), (8, (.one (.cel (.bool (bOk bi bf bv bt bm be bd))))), (7, (.one (.agg [(.int .i64 bi), (.int .i64 bf), (.int .i64 bv), (.int .i64 bt), (.int .i64 bm), (.int .i64 be), (.int .i64 bd)]))), (4, (.one (.cel (.bool Bool.false)))), (3, (.one (.cel (.ptr 1 0)))), (2, (.one (.cel (.ptr 0 0)))), (0, (.one (.agg [(.int .i64 bi), (.int .i64 bf), (.int .i64 bv), (.int .i64 bt), (.int .i64 bm), (.int .i64 be), (.int .i64 bd)]))), (1, (.one (.agg [(.int .i64 po), (.int .i64 sp), (.int .i64 re), (.int .i64 pr), (.int .i64 fl), (.row 0)])))], [[(.int .i64 bi), (.int .i64 bf), (.int .i64 bv), (.int .i64 bt), (.int .i64 bm), (.int .i64 be), (.int .i64 bd)], [(.int .i64 po), (.int .i64 sp), (.int .i64 re), (.int .i64 pr), (.int .i64 fl), (.row 0)]], [⟨(.ints .i64 l), none⟩], 0⟩
def pgood_L1_T (bi : Int) (bf : Int) (bv : Int) (bt : Int) (bm : Int) (be : Int) (bd : Int) (po : Int) (sp : Int) (re : Int) (pr : Int) (fl : Int) (l : List Int) (i : Int) : Prop := (cnd (decide (i < (((List.length l) : Nat) : Int)))
  (cnd (decide ((0 : Int) ≤ i))
    (cnd (decide (i < (((List.length l) : Nat) : Int)))
      (cnd (!(btw (List.getD l (Int.toNat i) (0 : Int)) (500 : Int) (2000 : Int)))
        (Bool.false = ((bOk bi bf bv bt bm be bd) && (gB bi bd po sp re pr fl l)))
        ((pgood_L1_I bi bf bv bt bm be bd po sp re pr fl l (Go.IntKind.wrap Go.IntKind.i64 (i + (1 : Int)))) ∧ (((pgood_L1_m bi bf bv bt bm be bd po sp re pr fl l (Go.IntKind.wrap Go.IntKind.i64 (i + (1 : Int)))) < (pgood_L1_m bi bf bv bt bm be bd po sp re pr fl l i)) ∧ (((Go.IntKind.wrap Go.IntKind.i64 (i + (1 : Int))) = (Go.IntKind.wrap Go.IntKind.i64 (i + (1 : Int)))) ∧ (((((List.length l) : Nat) : Int) = (((List.length l) : Nat) : Int)) ∧ (True ∧ ((Bool.false = Bool.false) ∧ (((bi = bi) ∧ ((bf = bf) ∧ ((bv = bv) ∧ ((bt = bt) ∧ ((bm = bm) ∧ ((be = be) ∧ (bd = bd))))))) ∧ (((po = po) ∧ ((sp = sp) ∧ ((re = re) ∧ ((pr = pr) ∧ ((fl = fl) ∧ True))))) ∧ ((l = l) ∧ True))))))))))
      False)
    False)
  (Bool.true = ((bOk bi bf bv bt bm be bd) && (gB bi bd po sp re pr fl l))))
set_option maxRecDepth 100000 in
theorem pgood_L1_tree (bi : Int) (bf : Int) (bv : Int) (bt : Int) (bm : Int) (be : Int) (bd : Int) (po : Int) (sp : Int) (re : Int) (pr : Int) (fl : Int) (l : List Int) (i : Int) : pgood_L1_T bi bf bv bt bm be bd po sp re pr fl l i = ex Try.prog (conOf [within_e, pvalid_e]) (subC (bodyOf Try.f22) [1, 1, 0, 1, 0, 0]) (nextE (pgood_L1_N bi bf bv bt bm be bd po sp re pr fl l i) (kont Try.prog (conOf [within_e, pvalid_e]) (bodyOf Try.f22) [1, 1, 0, 1, 0] (retPost Try.prog Try.f22 1 (pgood_res bi bf bv bt bm be bd po sp re pr fl l)))) (pgood_L1_F bi bf bv bt bm be bd po sp re pr fl l i) := by kernel_rfl
set_option maxRecDepth 100000 in
theorem pgood_L1_round (bi : Int) (bf : Int) (bv : Int) (bt : Int) (bm : Int) (be : Int) (bd : Int) (po : Int) (sp : Int) (re : Int) (pr : Int) (fl : Int) (l : List Int) (i : Int)  (hI_L1 : pgood_L1_I bi bf bv bt bm be bd po sp re pr fl l i) : pgood_L1_T bi bf bv bt bm be bd po sp re pr fl l i := by
  obtain ⟨⟨a1, a2, a3⟩, a4, a5⟩ := hI_L1
  unfold pgood_L1_T
  simp only [Bool.and_eq_true] at a4
  rw [w64 (n := i + 1) (by omega) (by omega)]
  have eq0 : (bOk bi bf bv bt bm be bd && gB bi bd po sp re pr fl l) = l.all pV := by unfold gB; rw [a4.1, a4.2]; rfl
  rw [eq0]
  change cnd _ (cnd _ (cnd _ (cnd (!(pV (l.getD i.toNat 0))) _ _) _) _) _
  by_cases hl : i < l.length
  · have j1 : decide (0 ≤ i) = true := by simpa using a1
    simp only [hl, decide_true, j1, cnd]
    cases hx : pV (l.getD i.toNat 0) with
    | false => exact (all_take_not (by omega) hx).symm
    | true =>
      refine ⟨⟨⟨by omega, by omega, a3⟩, by rw [a4.1, a4.2]; rfl, all_take a1 hl a5 hx⟩, ?_, by simp⟩
      unfold pgood_L1_m
      omega
  · rw [List.take_of_length_le (by omega)] at a5
    simp only [hl, decide_false, cnd]
    exact a5.symm
set_option maxRecDepth 100000 in
theorem pgood_L1_entry1 (bi : Int) (bf : Int) (bv : Int) (bt : Int) (bm : Int) (be : Int) (bd : Int) (po : Int) (sp : Int) (re : Int) (pr : Int) (fl : Int) (l : List Int) : (((pgood_L1_I bi bf bv bt bm be bd po sp re pr fl l (0 : Int)) ∧ (((0 : Int) = (0 : Int)) ∧ (((((List.length l) : Nat) : Int) = (((List.length l) : Nat) : Int)) ∧ (True ∧ ((Bool.false = Bool.false) ∧ (((bi = bi) ∧ ((bf = bf) ∧ ((bv = bv) ∧ ((bt = bt) ∧ ((bm = bm) ∧ ((be = be) ∧ (bd = bd))))))) ∧ (((po = po) ∧ ((sp = sp) ∧ ((re = re) ∧ ((pr = pr) ∧ ((fl = fl) ∧ True))))) ∧ ((l = l) ∧ True))))))))) = pgood_L1_E bi bf bv bt bm be bd po sp re pr fl l (pgood_L1_S1 bi bf bv bt bm be bd po sp re pr fl l) := by kernel_rfl
theorem pgood_L1_1 (bi : Int) (bf : Int) (bv : Int) (bt : Int) (bm : Int) (be : Int) (bd : Int) (po : Int) (sp : Int) (re : Int) (pr : Int) (fl : Int) (l : List Int)  (h : ((pgood_L1_I bi bf bv bt bm be bd po sp re pr fl l (0 : Int)) ∧ (((0 : Int) = (0 : Int)) ∧ (((((List.length l) : Nat) : Int) = (((List.length l) : Nat) : Int)) ∧ (True ∧ ((Bool.false = Bool.false) ∧ (((bi = bi) ∧ ((bf = bf) ∧ ((bv = bv) ∧ ((bt = bt) ∧ ((bm = bm) ∧ ((be = be) ∧ (bd = bd))))))) ∧ (((po = po) ∧ ((sp = sp) ∧ ((re = re) ∧ ((pr = pr) ∧ ((fl = fl) ∧ True))))) ∧ ((l = l) ∧ True))))))))) : LoopP (ex Try.prog (conOf [within_e, pvalid_e]) (subC (bodyOf Try.f22) [1, 1, 0, 1, 0, 0])) (kont Try.prog (conOf [within_e, pvalid_e]) (bodyOf Try.f22) [1, 1, 0, 1, 0] (retPost Try.prog Try.f22 1 (pgood_res bi bf bv bt bm be bd po sp re pr fl l))) (pgood_L1_S1 bi bf bv bt bm be bd po sp re pr fl l) := by
  have hE : pgood_L1_E bi bf bv bt bm be bd po sp re pr fl l (pgood_L1_S1 bi bf bv bt bm be bd po sp re pr fl l) := Eq.mp (pgood_L1_entry1 bi bf bv bt bm be bd po sp re pr fl l) h
  unfold pgood_L1_E at hE
  obtain ⟨i, hE⟩ := getI_of hE
  refine loop_of (α := (Int)) (fun xx_ => pgood_L1_F bi bf bv bt bm be bd po sp re pr fl l xx_) (fun xx_ => pgood_L1_I bi bf bv bt bm be bd po sp re pr fl l xx_) (fun xx_ => pgood_L1_m bi bf bv bt bm be bd po sp re pr fl l xx_) (fun xx_ => pgood_L1_N bi bf bv bt bm be bd po sp re pr fl l xx_) (fun xx_ => pgood_L1_T bi bf bv bt bm be bd po sp re pr fl l xx_) (fun xx_ s_ h => ?_) ⟨i, hE⟩ (fun xx_ => pgood_L1_tree bi bf bv bt bm be bd po sp re pr fl l xx_) (fun xx_ hI => pgood_L1_round bi bf bv bt bm be bd po sp re pr fl l xx_  hI)
  unfold pgood_L1_N at h
  obtain ⟨i, h⟩ := getI_of h
  exact ⟨i, h⟩
set_option maxRecDepth 100000 in
theorem pgood_tree (bi : Int) (bf : Int) (bv : Int) (bt : Int) (bm : Int) (be : Int) (bd : Int) (po : Int) (sp : Int) (re : Int) (pr : Int) (fl : Int) (l : List Int) : ((cnd (((((((!(bOk bi bf bv bt bm be bd)) || (!(btw po (0 : Int) (3019898879 : Int)))) || (!(btw sp (0 : Int) (262144 : Int)))) || (!(btw re (0 : Int) (Go.IntKind.wrap Go.IntKind.i64 (bi - (1 : Int)))))) || (!(btw pr (50 : Int) (1013 : Int)))) || (!(btw fl (0 : Int) (2147483648 : Int)))) || (decide ((Go.IntKind.wrap Go.IntKind.i64 (bd + (1 : Int))) < (((List.length l) : Nat) : Int))))
  (Bool.false = ((bOk bi bf bv bt bm be bd) && (gB bi bd po sp re pr fl l)))
  (LoopP (ex Try.prog (conOf [within_e, pvalid_e]) (subC (bodyOf Try.f22) [1, 1, 0, 1, 0, 0])) (kont Try.prog (conOf [within_e, pvalid_e]) (bodyOf Try.f22) [1, 1, 0, 1, 0] (retPost Try.prog Try.f22 1 (pgood_res bi bf bv bt bm be bd po sp re pr fl l))) (pgood_L1_S1 bi bf bv bt bm be bd po sp re pr fl l)))) = EXD Try.prog (conOf [within_e, pvalid_e]) Try.f22 [.agg [.int .i64 bi, .int .i64 bf, .int .i64 bv, .int .i64 bt, .int .i64 bm, .int .i64 be, .int .i64 bd], .agg [.int .i64 po, .int .i64 sp, .int .i64 re, .int .i64 pr, .int .i64 fl, .row 0]] [.ints .i64 l] [] (pgood_res bi bf bv bt bm be bd po sp re pr fl l) := by kernel_rfl
theorem pgood_holds (bi : Int) (bf : Int) (bv : Int) (bt : Int) (bm : Int) (be : Int) (bd : Int) (po : Int) (sp : Int) (re : Int) (pr : Int) (fl : Int) (l : List Int)  : (cnd (((((((!(bOk bi bf bv bt bm be bd)) || (!(btw po (0 : Int) (3019898879 : Int)))) || (!(btw sp (0 : Int) (262144 : Int)))) || (!(btw re (0 : Int) (Go.IntKind.wrap Go.IntKind.i64 (bi - (1 : Int)))))) || (!(btw pr (50 : Int) (1013 : Int)))) || (!(btw fl (0 : Int) (2147483648 : Int)))) || (decide ((Go.IntKind.wrap Go.IntKind.i64 (bd + (1 : Int))) < (((List.length l) : Nat) : Int))))
  (Bool.false = ((bOk bi bf bv bt bm be bd) && (gB bi bd po sp re pr fl l)))
  (LoopP (ex Try.prog (conOf [within_e, pvalid_e]) (subC (bodyOf Try.f22) [1, 1, 0, 1, 0, 0])) (kont Try.prog (conOf [within_e, pvalid_e]) (bodyOf Try.f22) [1, 1, 0, 1, 0] (retPost Try.prog Try.f22 1 (pgood_res bi bf bv bt bm be bd po sp re pr fl l))) (pgood_L1_S1 bi bf bv bt bm be bd po sp re pr fl l))) := by
  cases hb : bOk bi bf bv bt bm be bd with
  | false => simp [cnd]
  | true =>
    have hb2 := bOk_iff.1 hb
    rw [w64 (n := bi - 1) (by omega) (by omega), w64 (n := bd + 1) (by omega) (by omega)]
    have e : (((((((!true) || (!btw po 0 3019898879)) || (!btw sp 0 262144)) || (!btw re 0 (bi - 1))) || (!btw pr 50 1013)) || (!btw fl 0 2147483648)) || decide (bd + 1 < (l.length : Int))) = !gH bi bd po sp re pr fl l.length := by
      have : decide (bd + 1 < (l.length : Int)) = !decide ((l.length : Int) ≤ bd + 1) := by by_cases h : (l.length : Int) ≤ bd + 1 <;> simp [h] <;> omega
      rw [this]
      simp only [gH, Bool.not_and, Bool.not_true, Bool.false_or]
    rw [e]
    cases hg : gH bi bd po sp re pr fl l.length with
    | false => simp [cnd, gB, hg]
    | true =>
      simp only [Bool.not_true, cnd]
      have := (gH_iff.1 hg).2.2.2.2.2
      exact pgood_L1_1 bi bf bv bt bm be bd po sp re pr fl l ⟨⟨⟨by omega, by omega, by omega⟩, by rw [hb, hg]; rfl, by simp⟩, by simp⟩
set_option maxHeartbeats 2000000 in
theorem pgood_ok : SoundEnt Try.prog pgood_e := by
  refine ent_of_ex (Γ := (conOf [within_e, pvalid_e])) (conOf_sound (scons within_ok (scons pvalid_ok snil))) (by kernel_rfl) Try.func22 (by kernel_rfl) (by kernel_rfl) (fun args rows caps res h ho => ?_)
  change pgood_go args rows caps = some res at h
  unfold pgood_go at h
  split at h
  · simp only [Option.some.injEq] at h
    subst h
    rename_i q0_ q1_ q2_ q3_ q4_ q5_ q6_ q7_ q8_ q9_ q10_ q11_ q12_
    skip
    exact EX.of (pgood_tree q0_ q1_ q2_ q3_ q4_ q5_ q6_ q7_ q8_ q9_ q10_ q11_ q12_) (pgood_holds q0_ q1_ q2_ q3_ q4_ q5_ q6_ q7_ q8_ q9_ q10_ q11_ q12_)
  · cases h
def pnew_res (bi : Int) (bf : Int) (bv : Int) (bt : Int) (bm : Int) (be : Int) (bd : Int) : CRes := ⟨[], .tup [.agg [.int .i64 (0), .int .i64 (0), .int .i64 (0), .int .i64 (cond (bOk bi bf bv bt bm be bd) 1013 0), .int .i64 (0), .row 0], .cel (.int .i64 (cond (bOk bi bf bv bt bm be bd) 0 1))], [.ints .i64 ([])]⟩
def pnew_go : List TV → List RowA → List (List CV) → Option CRes := fun args rows caps =>
  match args, rows, caps with
  | [.agg [.int .i64 bi, .int .i64 bf, .int .i64 bv, .int .i64 bt, .int .i64 bm, .int .i64 be, .int .i64 bd]], [], [] => some (pnew_res bi bf bv bt bm be bd)
  | _, _, _ => none
def pnew_e : Ent := ⟨21, [], pnew_go⟩
set_option maxRecDepth 100000 in
theorem pnew_tree (bi : Int) (bf : Int) (bv : Int) (bt : Int) (bm : Int) (be : Int) (bd : Int) : ((cnd (!(bOk bi bf bv bt bm be bd))
  (((((0 : Int) = (0 : Int)) ∧ (((0 : Int) = (0 : Int)) ∧ (((0 : Int) = (0 : Int)) ∧ (((0 : Int) = (cond (bOk bi bf bv bt bm be bd) (1013 : Int) (0 : Int))) ∧ (((0 : Int) = (0 : Int)) ∧ True))))) ∧ ((1 : Int) = (cond (bOk bi bf bv bt bm be bd) (0 : Int) (1 : Int)))) ∧ ((([] : List Int) = ([] : List Int)) ∧ True))
  (((((0 : Int) = (0 : Int)) ∧ (((0 : Int) = (0 : Int)) ∧ (((0 : Int) = (0 : Int)) ∧ (((1013 : Int) = (cond (bOk bi bf bv bt bm be bd) (1013 : Int) (0 : Int))) ∧ (((0 : Int) = (0 : Int)) ∧ True))))) ∧ ((0 : Int) = (cond (bOk bi bf bv bt bm be bd) (0 : Int) (1 : Int)))) ∧ ((([] : List Int) = ([] : List Int)) ∧ True)))) = EXD Try.prog (conOf [pvalid_e]) Try.f21 [.agg [.int .i64 bi, .int .i64 bf, .int .i64 bv, .int .i64 bt, .int .i64 bm, .int .i64 be, .int .i64 bd]] [] [] (pnew_res bi bf bv bt bm be bd) := by kernel_rfl
theorem pnew_holds (bi : Int) (bf : Int) (bv : Int) (bt : Int) (bm : Int) (be : Int) (bd : Int)  : (cnd (!(bOk bi bf bv bt bm be bd))
  (((((0 : Int) = (0 : Int)) ∧ (((0 : Int) = (0 : Int)) ∧ (((0 : Int) = (0 : Int)) ∧ (((0 : Int) = (cond (bOk bi bf bv bt bm be bd) (1013 : Int) (0 : Int))) ∧ (((0 : Int) = (0 : Int)) ∧ True))))) ∧ ((1 : Int) = (cond (bOk bi bf bv bt bm be bd) (0 : Int) (1 : Int)))) ∧ ((([] : List Int) = ([] : List Int)) ∧ True))
  (((((0 : Int) = (0 : Int)) ∧ (((0 : Int) = (0 : Int)) ∧ (((0 : Int) = (0 : Int)) ∧ (((1013 : Int) = (cond (bOk bi bf bv bt bm be bd) (1013 : Int) (0 : Int))) ∧ (((0 : Int) = (0 : Int)) ∧ True))))) ∧ ((0 : Int) = (cond (bOk bi bf bv bt bm be bd) (0 : Int) (1 : Int)))) ∧ ((([] : List Int) = ([] : List Int)) ∧ True))) := by
  cases bOk bi bf bv bt bm be bd <;> simp [cnd]
set_option maxHeartbeats 2000000 in
theorem pnew_ok : SoundEnt Try.prog pnew_e := by
  refine ent_of_ex (Γ := (conOf [pvalid_e])) (conOf_sound (scons pvalid_ok snil)) (by kernel_rfl) Try.func21 (by kernel_rfl) (by kernel_rfl) (fun args rows caps res h ho => ?_)
  change pnew_go args rows caps = some res at h
  unfold pnew_go at h
  split at h
  · simp only [Option.some.injEq] at h
    subst h
    rename_i q0_ q1_ q2_ q3_ q4_ q5_ q6_
    skip
    exact EX.of (pnew_tree q0_ q1_ q2_ q3_ q4_ q5_ q6_) (pnew_holds q0_ q1_ q2_ q3_ q4_ q5_ q6_)
  · cases h
def plambda_res (po : Int) (sp : Int) (re : Int) (pr : Int) (fl : Int) (l : List Int) : CRes := ⟨[], .one (.cel (.int .i64 (l.getD 0 1000))), []⟩
def plambda_go : List TV → List RowA → List (List CV) → Option CRes := fun args rows caps =>
  match args, rows, caps with
  | [.agg [.int .i64 po, .int .i64 sp, .int .i64 re, .int .i64 pr, .int .i64 fl, .row 0]], [.ints .i64 l], [] => some (plambda_res po sp re pr fl l)
  | _, _, _ => none
def plambda_e : Ent := ⟨23, [.ints .i64 []], plambda_go⟩
set_option maxRecDepth 100000 in
theorem plambda_tree (po : Int) (sp : Int) (re : Int) (pr : Int) (fl : Int) (l : List Int) : ((cnd (decide ((((List.length l) : Nat) : Int) = (0 : Int)))
  ((1000 : Int) = (List.getD l 0 (1000 : Int)))
  (cnd (decide ((0 : Int) < (((List.length l) : Nat) : Int)))
    ((List.getD l (Int.toNat (0 : Int)) (0 : Int)) = (List.getD l 0 (1000 : Int)))
    False))) = EXD Try.prog (conOf []) Try.f23 [.agg [.int .i64 po, .int .i64 sp, .int .i64 re, .int .i64 pr, .int .i64 fl, .row 0]] [.ints .i64 l] [] (plambda_res po sp re pr fl l) := by kernel_rfl
theorem plambda_holds (po : Int) (sp : Int) (re : Int) (pr : Int) (fl : Int) (l : List Int)  : (cnd (decide ((((List.length l) : Nat) : Int) = (0 : Int)))
  ((1000 : Int) = (List.getD l 0 (1000 : Int)))
  (cnd (decide ((0 : Int) < (((List.length l) : Nat) : Int)))
    ((List.getD l (Int.toNat (0 : Int)) (0 : Int)) = (List.getD l 0 (1000 : Int)))
    False)) := by
  cases l with
  | nil => simp [cnd]
  | cons x r =>
    have j1 : decide ((((x :: r).length : Nat) : Int) = 0) = false := by rw [decide_eq_false_iff_not, List.length_cons]; omega
    have j2 : decide ((0 : Int) < (((x :: r).length : Nat) : Int)) = true := by rw [decide_eq_true_eq, List.length_cons]; omega
    simp only [j1, j2, cnd]
    rfl
set_option maxHeartbeats 2000000 in
theorem plambda_ok : SoundEnt Try.prog plambda_e := by
  refine ent_of_ex (Γ := (conOf [])) (conOf_sound snil) (by kernel_rfl) Try.func23 (by kernel_rfl) (by kernel_rfl) (fun args rows caps res h ho => ?_)
  change plambda_go args rows caps = some res at h
  unfold plambda_go at h
  split at h
  · simp only [Option.some.injEq] at h
    subst h
    rename_i q0_ q1_ q2_ q3_ q4_ q5_
    skip
    exact EX.of (plambda_tree q0_ q1_ q2_ q3_ q4_ q5_) (plambda_holds q0_ q1_ q2_ q3_ q4_ q5_)
  · cases h
def pstep_res (bi : Int) (bf : Int) (bv : Int) (bt : Int) (bm : Int) (be : Int) (bd : Int) (po : Int) (sp : Int) (re : Int) (pr : Int) (fl : Int) (l : List Int) (t : Int) (tq : Int) (ld : Int) (tk : Int) : CRes := ⟨[], .tup [.agg [.int .i64 (kE (stE (bOk bi bf bv bt bm be bd) (gB bi bd po sp re pr fl l) (aOk t tq ld tk)) (xPo po sp tk)), .int .i64 (kE (stE (bOk bi bf bv bt bm be bd) (gB bi bd po sp re pr fl l) (aOk t tq ld tk)) (xSp bi bf sp re tq ld tk)), .int .i64 (kE (stE (bOk bi bf bv bt bm be bd) (gB bi bd po sp re pr fl l) (aOk t tq ld tk)) (xRe bi bf sp re tq ld tk)), .int .i64 (kE (stE (bOk bi bf bv bt bm be bd) (gB bi bd po sp re pr fl l) (aOk t tq ld tk)) (xPr bv bt sp pr t tk)), .int .i64 (kE (stE (bOk bi bf bv bt bm be bd) (gB bi bd po sp re pr fl l) (aOk t tq ld tk)) fl), .row 1], .agg [.int .i64 (kE (stE (bOk bi bf bv bt bm be bd) (gB bi bd po sp re pr fl l) (aOk t tq ld tk)) tk), .int .i64 (kE (stE (bOk bi bf bv bt bm be bd) (gB bi bd po sp re pr fl l) (aOk t tq ld tk)) sp)], .cel (.int .i64 (stE (bOk bi bf bv bt bm be bd) (gB bi bd po sp re pr fl l) (aOk t tq ld tk)))], [.ints .i64 (kL (stE (bOk bi bf bv bt bm be bd) (gB bi bd po sp re pr fl l) (aOk t tq ld tk)) l)]⟩
def pstep_go : List TV → List RowA → List (List CV) → Option CRes := fun args rows caps =>
  match args, rows, caps with
  | [.agg [.int .i64 bi, .int .i64 bf, .int .i64 bv, .int .i64 bt, .int .i64 bm, .int .i64 be, .int .i64 bd], .agg [.int .i64 po, .int .i64 sp, .int .i64 re, .int .i64 pr, .int .i64 fl, .row 0], .cel (.int .i64 t), .cel (.int .i64 tq), .cel (.int .i64 ld), .cel (.int .i64 tk)], [.ints .i64 l], [] => some (pstep_res bi bf bv bt bm be bd po sp re pr fl l t tq ld tk)
  | _, _, _ => none
def pstep_e : Ent := ⟨13, [.ints .i64 []], pstep_go⟩
set_option maxRecDepth 100000 in
theorem pstep_tree (bi : Int) (bf : Int) (bv : Int) (bt : Int) (bm : Int) (be : Int) (bd : Int) (po : Int) (sp : Int) (re : Int) (pr : Int) (fl : Int) (l : List Int) (t : Int) (tq : Int) (ld : Int) (tk : Int) : ((cnd (!((bOk bi bf bv bt bm be bd) && (gB bi bd po sp re pr fl l)))
  (((((0 : Int) = (kE (stE (bOk bi bf bv bt bm be bd) (gB bi bd po sp re pr fl l) (aOk t tq ld tk)) (xPo po sp tk))) ∧ (((0 : Int) = (kE (stE (bOk bi bf bv bt bm be bd) (gB bi bd po sp re pr fl l) (aOk t tq ld tk)) (xSp bi bf sp re tq ld tk))) ∧ (((0 : Int) = (kE (stE (bOk bi bf bv bt bm be bd) (gB bi bd po sp re pr fl l) (aOk t tq ld tk)) (xRe bi bf sp re tq ld tk))) ∧ (((0 : Int) = (kE (stE (bOk bi bf bv bt bm be bd) (gB bi bd po sp re pr fl l) (aOk t tq ld tk)) (xPr bv bt sp pr t tk))) ∧ (((0 : Int) = (kE (stE (bOk bi bf bv bt bm be bd) (gB bi bd po sp re pr fl l) (aOk t tq ld tk)) fl)) ∧ True))))) ∧ ((((0 : Int) = (kE (stE (bOk bi bf bv bt bm be bd) (gB bi bd po sp re pr fl l) (aOk t tq ld tk)) tk)) ∧ ((0 : Int) = (kE (stE (bOk bi bf bv bt bm be bd) (gB bi bd po sp re pr fl l) (aOk t tq ld tk)) sp))) ∧ ((1 : Int) = (stE (bOk bi bf bv bt bm be bd) (gB bi bd po sp re pr fl l) (aOk t tq ld tk))))) ∧ (((kL (stE (bOk bi bf bv bt bm be bd) (gB bi bd po sp re pr fl l) (aOk t tq ld tk)) l) = ([] : List Int)) ∧ True))
  (cnd ((((!(btw t (0 : Int) (1000 : Int))) || (!(btw tq (-(5000 : Int)) (10000 : Int)))) || (!(btw ld (-(10000 : Int)) (10000 : Int)))) || (!(btw tk (1 : Int) (10000 : Int))))
    (((((0 : Int) = (kE (stE (bOk bi bf bv bt bm be bd) (gB bi bd po sp re pr fl l) (aOk t tq ld tk)) (xPo po sp tk))) ∧ (((0 : Int) = (kE (stE (bOk bi bf bv bt bm be bd) (gB bi bd po sp re pr fl l) (aOk t tq ld tk)) (xSp bi bf sp re tq ld tk))) ∧ (((0 : Int) = (kE (stE (bOk bi bf bv bt bm be bd) (gB bi bd po sp re pr fl l) (aOk t tq ld tk)) (xRe bi bf sp re tq ld tk))) ∧ (((0 : Int) = (kE (stE (bOk bi bf bv bt bm be bd) (gB bi bd po sp re pr fl l) (aOk t tq ld tk)) (xPr bv bt sp pr t tk))) ∧ (((0 : Int) = (kE (stE (bOk bi bf bv bt bm be bd) (gB bi bd po sp re pr fl l) (aOk t tq ld tk)) fl)) ∧ True))))) ∧ ((((0 : Int) = (kE (stE (bOk bi bf bv bt bm be bd) (gB bi bd po sp re pr fl l) (aOk t tq ld tk)) tk)) ∧ ((0 : Int) = (kE (stE (bOk bi bf bv bt bm be bd) (gB bi bd po sp re pr fl l) (aOk t tq ld tk)) sp))) ∧ ((2 : Int) = (stE (bOk bi bf bv bt bm be bd) (gB bi bd po sp re pr fl l) (aOk t tq ld tk))))) ∧ (((kL (stE (bOk bi bf bv bt bm be bd) (gB bi bd po sp re pr fl l) (aOk t tq ld tk)) l) = ([] : List Int)) ∧ True))
    (cnd (decide ((List.length (([] : List Int) ++ l)) ≤ 4294967296))
      (cnd (inBig (Go.IntKind.wrap Go.IntKind.i64 ((Go.IntKind.wrap Go.IntKind.i64 ((Go.IntKind.wrap Go.IntKind.i64 ((Go.IntKind.wrap Go.IntKind.i64 (tq - ld)) - (Go.IntKind.wrap Go.IntKind.i64 (Int.tdiv (Go.IntKind.wrap Go.IntKind.i64 (bf * sp)) (65536 : Int))))) * tk)) + re)))
        (cnd (decide ((1 : Int) ≤ bi))
          (cnd (inBig bi)
            (cnd (in64 (Go.IntKind.wrap Go.IntKind.i64 ((Go.IntKind.wrap Go.IntKind.i64 ((Go.IntKind.wrap Go.IntKind.i64 ((Go.IntKind.wrap Go.IntKind.i64 (tq - ld)) - (Go.IntKind.wrap Go.IntKind.i64 (Int.tdiv (Go.IntKind.wrap Go.IntKind.i64 (bf * sp)) (65536 : Int))))) * tk)) + re)))
              (cnd (decide ((1 : Int) ≤ bi))
                (cnd (in64 bi)
                  (cnd ((decide ((Go.IntKind.wrap Go.IntKind.i64 (sp + ((Go.IntKind.wrap Go.IntKind.i64 ((Go.IntKind.wrap Go.IntKind.i64 ((Go.IntKind.wrap Go.IntKind.i64 ((Go.IntKind.wrap Go.IntKind.i64 (tq - ld)) - (Go.IntKind.wrap Go.IntKind.i64 (Int.tdiv (Go.IntKind.wrap Go.IntKind.i64 (bf * sp)) (65536 : Int))))) * tk)) + re)) / bi))) < (0 : Int))) || (decide ((262144 : Int) < (Go.IntKind.wrap Go.IntKind.i64 (sp + ((Go.IntKind.wrap Go.IntKind.i64 ((Go.IntKind.wrap Go.IntKind.i64 ((Go.IntKind.wrap Go.IntKind.i64 ((Go.IntKind.wrap Go.IntKind.i64 (tq - ld)) - (Go.IntKind.wrap Go.IntKind.i64 (Int.tdiv (Go.IntKind.wrap Go.IntKind.i64 (bf * sp)) (65536 : Int))))) * tk)) + re)) / bi))))))
                    (cnd (inBig (Go.IntKind.wrap Go.IntKind.i64 ((Go.IntKind.wrap Go.IntKind.i64 ((Go.IntKind.wrap Go.IntKind.i64 (Int.tdiv (Go.IntKind.wrap Go.IntKind.i64 ((Go.IntKind.wrap Go.IntKind.i64 (bt * t)) * (Go.IntKind.wrap Go.IntKind.i64 ((1013 : Int) - pr)))) (1000 : Int))) - (Go.IntKind.wrap Go.IntKind.i64 (Int.tdiv (Go.IntKind.wrap Go.IntKind.i64 (sp * pr)) (1024 : Int))))) * tk)))
                      (cnd (decide ((1 : Int) ≤ (Go.IntKind.wrap Go.IntKind.i64 ((65536 : Int) * bv))))
                        (cnd (inBig (Go.IntKind.wrap Go.IntKind.i64 ((65536 : Int) * bv)))
                          ((((((Int.tmod (Go.IntKind.wrap Go.IntKind.i64 (po + (Go.IntKind.wrap Go.IntKind.i64 (sp * tk)))) (3019898880 : Int)) = (kE (stE (bOk bi bf bv bt bm be bd) (gB bi bd po sp re pr fl l) (aOk t tq ld tk)) (xPo po sp tk))) ∧ (((Min.min (Max.max (Go.IntKind.wrap Go.IntKind.i64 (sp + ((Go.IntKind.wrap Go.IntKind.i64 ((Go.IntKind.wrap Go.IntKind.i64 ((Go.IntKind.wrap Go.IntKind.i64 ((Go.IntKind.wrap Go.IntKind.i64 (tq - ld)) - (Go.IntKind.wrap Go.IntKind.i64 (Int.tdiv (Go.IntKind.wrap Go.IntKind.i64 (bf * sp)) (65536 : Int))))) * tk)) + re)) / bi))) (0 : Int)) (262144 : Int)) = (kE (stE (bOk bi bf bv bt bm be bd) (gB bi bd po sp re pr fl l) (aOk t tq ld tk)) (xSp bi bf sp re tq ld tk))) ∧ (((0 : Int) = (kE (stE (bOk bi bf bv bt bm be bd) (gB bi bd po sp re pr fl l) (aOk t tq ld tk)) (xRe bi bf sp re tq ld tk))) ∧ (((Min.min (Max.max (Go.IntKind.wrap Go.IntKind.i64 (pr + ((Go.IntKind.wrap Go.IntKind.i64 ((Go.IntKind.wrap Go.IntKind.i64 ((Go.IntKind.wrap Go.IntKind.i64 (Int.tdiv (Go.IntKind.wrap Go.IntKind.i64 ((Go.IntKind.wrap Go.IntKind.i64 (bt * t)) * (Go.IntKind.wrap Go.IntKind.i64 ((1013 : Int) - pr)))) (1000 : Int))) - (Go.IntKind.wrap Go.IntKind.i64 (Int.tdiv (Go.IntKind.wrap Go.IntKind.i64 (sp * pr)) (1024 : Int))))) * tk)) / (Go.IntKind.wrap Go.IntKind.i64 ((65536 : Int) * bv))))) (50 : Int)) (1013 : Int)) = (kE (stE (bOk bi bf bv bt bm be bd) (gB bi bd po sp re pr fl l) (aOk t tq ld tk)) (xPr bv bt sp pr t tk))) ∧ ((fl = (kE (stE (bOk bi bf bv bt bm be bd) (gB bi bd po sp re pr fl l) (aOk t tq ld tk)) fl)) ∧ True))))) ∧ (((tk = (kE (stE (bOk bi bf bv bt bm be bd) (gB bi bd po sp re pr fl l) (aOk t tq ld tk)) tk)) ∧ (sp = (kE (stE (bOk bi bf bv bt bm be bd) (gB bi bd po sp re pr fl l) (aOk t tq ld tk)) sp))) ∧ ((0 : Int) = (stE (bOk bi bf bv bt bm be bd) (gB bi bd po sp re pr fl l) (aOk t tq ld tk))))) ∧ (((([] : List Int) ++ l) = (kL (stE (bOk bi bf bv bt bm be bd) (gB bi bd po sp re pr fl l) (aOk t tq ld tk)) l)) ∧ True)) ∧ (((((Int.tmod (Go.IntKind.wrap Go.IntKind.i64 (po + (Go.IntKind.wrap Go.IntKind.i64 (sp * tk)))) (3019898880 : Int)) = (kE (stE (bOk bi bf bv bt bm be bd) (gB bi bd po sp re pr fl l) (aOk t tq ld tk)) (xPo po sp tk))) ∧ (((Min.min (Max.max (Go.IntKind.wrap Go.IntKind.i64 (sp + ((Go.IntKind.wrap Go.IntKind.i64 ((Go.IntKind.wrap Go.IntKind.i64 ((Go.IntKind.wrap Go.IntKind.i64 ((Go.IntKind.wrap Go.IntKind.i64 (tq - ld)) - (Go.IntKind.wrap Go.IntKind.i64 (Int.tdiv (Go.IntKind.wrap Go.IntKind.i64 (bf * sp)) (65536 : Int))))) * tk)) + re)) / bi))) (0 : Int)) (262144 : Int)) = (kE (stE (bOk bi bf bv bt bm be bd) (gB bi bd po sp re pr fl l) (aOk t tq ld tk)) (xSp bi bf sp re tq ld tk))) ∧ (((0 : Int) = (kE (stE (bOk bi bf bv bt bm be bd) (gB bi bd po sp re pr fl l) (aOk t tq ld tk)) (xRe bi bf sp re tq ld tk))) ∧ (((Min.min (Max.max (Go.IntKind.wrap Go.IntKind.i64 (pr + ((Go.IntKind.wrap Go.IntKind.i64 ((Go.IntKind.wrap Go.IntKind.i64 ((Go.IntKind.wrap Go.IntKind.i64 (Int.tdiv (Go.IntKind.wrap Go.IntKind.i64 ((Go.IntKind.wrap Go.IntKind.i64 (bt * t)) * (Go.IntKind.wrap Go.IntKind.i64 ((1013 : Int) - pr)))) (1000 : Int))) - (Go.IntKind.wrap Go.IntKind.i64 (Int.tdiv (Go.IntKind.wrap Go.IntKind.i64 (sp * pr)) (1024 : Int))))) * tk)) / (Go.IntKind.wrap Go.IntKind.i64 ((65536 : Int) * bv))))) (50 : Int)) (1013 : Int)) = (kE (stE (bOk bi bf bv bt bm be bd) (gB bi bd po sp re pr fl l) (aOk t tq ld tk)) (xPr bv bt sp pr t tk))) ∧ ((fl = (kE (stE (bOk bi bf bv bt bm be bd) (gB bi bd po sp re pr fl l) (aOk t tq ld tk)) fl)) ∧ True))))) ∧ (((tk = (kE (stE (bOk bi bf bv bt bm be bd) (gB bi bd po sp re pr fl l) (aOk t tq ld tk)) tk)) ∧ (sp = (kE (stE (bOk bi bf bv bt bm be bd) (gB bi bd po sp re pr fl l) (aOk t tq ld tk)) sp))) ∧ ((0 : Int) = (stE (bOk bi bf bv bt bm be bd) (gB bi bd po sp re pr fl l) (aOk t tq ld tk))))) ∧ (((([] : List Int) ++ l) = (kL (stE (bOk bi bf bv bt bm be bd) (gB bi bd po sp re pr fl l) (aOk t tq ld tk)) l)) ∧ True)))
                          False)
                        False)
                      False)
                    (cnd (inBig (Go.IntKind.wrap Go.IntKind.i64 ((Go.IntKind.wrap Go.IntKind.i64 ((Go.IntKind.wrap Go.IntKind.i64 (Int.tdiv (Go.IntKind.wrap Go.IntKind.i64 ((Go.IntKind.wrap Go.IntKind.i64 (bt * t)) * (Go.IntKind.wrap Go.IntKind.i64 ((1013 : Int) - pr)))) (1000 : Int))) - (Go.IntKind.wrap Go.IntKind.i64 (Int.tdiv (Go.IntKind.wrap Go.IntKind.i64 (sp * pr)) (1024 : Int))))) * tk)))
                      (cnd (decide ((1 : Int) ≤ (Go.IntKind.wrap Go.IntKind.i64 ((65536 : Int) * bv))))
                        (cnd (inBig (Go.IntKind.wrap Go.IntKind.i64 ((65536 : Int) * bv)))
                          ((((((Int.tmod (Go.IntKind.wrap Go.IntKind.i64 (po + (Go.IntKind.wrap Go.IntKind.i64 (sp * tk)))) (3019898880 : Int)) = (kE (stE (bOk bi bf bv bt bm be bd) (gB bi bd po sp re pr fl l) (aOk t tq ld tk)) (xPo po sp tk))) ∧ (((Min.min (Max.max (Go.IntKind.wrap Go.IntKind.i64 (sp + ((Go.IntKind.wrap Go.IntKind.i64 ((Go.IntKind.wrap Go.IntKind.i64 ((Go.IntKind.wrap Go.IntKind.i64 ((Go.IntKind.wrap Go.IntKind.i64 (tq - ld)) - (Go.IntKind.wrap Go.IntKind.i64 (Int.tdiv (Go.IntKind.wrap Go.IntKind.i64 (bf * sp)) (65536 : Int))))) * tk)) + re)) / bi))) (0 : Int)) (262144 : Int)) = (kE (stE (bOk bi bf bv bt bm be bd) (gB bi bd po sp re pr fl l) (aOk t tq ld tk)) (xSp bi bf sp re tq ld tk))) ∧ ((((Go.IntKind.wrap Go.IntKind.i64 ((Go.IntKind.wrap Go.IntKind.i64 ((Go.IntKind.wrap Go.IntKind.i64 ((Go.IntKind.wrap Go.IntKind.i64 (tq - ld)) - (Go.IntKind.wrap Go.IntKind.i64 (Int.tdiv (Go.IntKind.wrap Go.IntKind.i64 (bf * sp)) (65536 : Int))))) * tk)) + re)) % bi) = (kE (stE (bOk bi bf bv bt bm be bd) (gB bi bd po sp re pr fl l) (aOk t tq ld tk)) (xRe bi bf sp re tq ld tk))) ∧ (((Min.min (Max.max (Go.IntKind.wrap Go.IntKind.i64 (pr + ((Go.IntKind.wrap Go.IntKind.i64 ((Go.IntKind.wrap Go.IntKind.i64 ((Go.IntKind.wrap Go.IntKind.i64 (Int.tdiv (Go.IntKind.wrap Go.IntKind.i64 ((Go.IntKind.wrap Go.IntKind.i64 (bt * t)) * (Go.IntKind.wrap Go.IntKind.i64 ((1013 : Int) - pr)))) (1000 : Int))) - (Go.IntKind.wrap Go.IntKind.i64 (Int.tdiv (Go.IntKind.wrap Go.IntKind.i64 (sp * pr)) (1024 : Int))))) * tk)) / (Go.IntKind.wrap Go.IntKind.i64 ((65536 : Int) * bv))))) (50 : Int)) (1013 : Int)) = (kE (stE (bOk bi bf bv bt bm be bd) (gB bi bd po sp re pr fl l) (aOk t tq ld tk)) (xPr bv bt sp pr t tk))) ∧ ((fl = (kE (stE (bOk bi bf bv bt bm be bd) (gB bi bd po sp re pr fl l) (aOk t tq ld tk)) fl)) ∧ True))))) ∧ (((tk = (kE (stE (bOk bi bf bv bt bm be bd) (gB bi bd po sp re pr fl l) (aOk t tq ld tk)) tk)) ∧ (sp = (kE (stE (bOk bi bf bv bt bm be bd) (gB bi bd po sp re pr fl l) (aOk t tq ld tk)) sp))) ∧ ((0 : Int) = (stE (bOk bi bf bv bt bm be bd) (gB bi bd po sp re pr fl l) (aOk t tq ld tk))))) ∧ (((([] : List Int) ++ l) = (kL (stE (bOk bi bf bv bt bm be bd) (gB bi bd po sp re pr fl l) (aOk t tq ld tk)) l)) ∧ True)) ∧ (((((Int.tmod (Go.IntKind.wrap Go.IntKind.i64 (po + (Go.IntKind.wrap Go.IntKind.i64 (sp * tk)))) (3019898880 : Int)) = (kE (stE (bOk bi bf bv bt bm be bd) (gB bi bd po sp re pr fl l) (aOk t tq ld tk)) (xPo po sp tk))) ∧ (((Min.min (Max.max (Go.IntKind.wrap Go.IntKind.i64 (sp + ((Go.IntKind.wrap Go.IntKind.i64 ((Go.IntKind.wrap Go.IntKind.i64 ((Go.IntKind.wrap Go.IntKind.i64 ((Go.IntKind.wrap Go.IntKind.i64 (tq - ld)) - (Go.IntKind.wrap Go.IntKind.i64 (Int.tdiv (Go.IntKind.wrap Go.IntKind.i64 (bf * sp)) (65536 : Int))))) * tk)) + re)) / bi))) (0 : Int)) (262144 : Int)) = (kE (stE (bOk bi bf bv bt bm be bd) (gB bi bd po sp re pr fl l) (aOk t tq ld tk)) (xSp bi bf sp re tq ld tk))) ∧ ((((Go.IntKind.wrap Go.IntKind.i64 ((Go.IntKind.wrap Go.IntKind.i64 ((Go.IntKind.wrap Go.IntKind.i64 ((Go.IntKind.wrap Go.IntKind.i64 (tq - ld)) - (Go.IntKind.wrap Go.IntKind.i64 (Int.tdiv (Go.IntKind.wrap Go.IntKind.i64 (bf * sp)) (65536 : Int))))) * tk)) + re)) % bi) = (kE (stE (bOk bi bf bv bt bm be bd) (gB bi bd po sp re pr fl l) (aOk t tq ld tk)) (xRe bi bf sp re tq ld tk))) ∧ (((Min.min (Max.max (Go.IntKind.wrap Go.IntKind.i64 (pr + ((Go.IntKind.wrap Go.IntKind.i64 ((Go.IntKind.wrap Go.IntKind.i64 ((Go.IntKind.wrap Go.IntKind.i64 (Int.tdiv (Go.IntKind.wrap Go.IntKind.i64 ((Go.IntKind.wrap Go.IntKind.i64 (bt * t)) * (Go.IntKind.wrap Go.IntKind.i64 ((1013 : Int) - pr)))) (1000 : Int))) - (Go.IntKind.wrap Go.IntKind.i64 (Int.tdiv (Go.IntKind.wrap Go.IntKind.i64 (sp * pr)) (1024 : Int))))) * tk)) / (Go.IntKind.wrap Go.IntKind.i64 ((65536 : Int) * bv))))) (50 : Int)) (1013 : Int)) = (kE (stE (bOk bi bf bv bt bm be bd) (gB bi bd po sp re pr fl l) (aOk t tq ld tk)) (xPr bv bt sp pr t tk))) ∧ ((fl = (kE (stE (bOk bi bf bv bt bm be bd) (gB bi bd po sp re pr fl l) (aOk t tq ld tk)) fl)) ∧ True))))) ∧ (((tk = (kE (stE (bOk bi bf bv bt bm be bd) (gB bi bd po sp re pr fl l) (aOk t tq ld tk)) tk)) ∧ (sp = (kE (stE (bOk bi bf bv bt bm be bd) (gB bi bd po sp re pr fl l) (aOk t tq ld tk)) sp))) ∧ ((0 : Int) = (stE (bOk bi bf bv bt bm be bd) (gB bi bd po sp re pr fl l) (aOk t tq ld tk))))) ∧ (((([] : List Int) ++ l) = (kL (stE (bOk bi bf bv bt bm be bd) (gB bi bd po sp re pr fl l) (aOk t tq ld tk)) l)) ∧ True)))
                          False)
                        False)
                      False))
                  False)
                False)
              False)
            False)
          False)
        False)
      False)))) = EXD Try.prog (inlOf Try.prog [within_e, pgood_e, floor_e, mod_e, clamp_e] [(30, Try.f30), (31, Try.f31)] []) Try.f13 [.agg [.int .i64 bi, .int .i64 bf, .int .i64 bv, .int .i64 bt, .int .i64 bm, .int .i64 be, .int .i64 bd], .agg [.int .i64 po, .int .i64 sp, .int .i64 re, .int .i64 pr, .int .i64 fl, .row 0], .cel (.int .i64 t), .cel (.int .i64 tq), .cel (.int .i64 ld), .cel (.int .i64 tk)] [.ints .i64 l] [] (pstep_res bi bf bv bt bm be bd po sp re pr fl l t tq ld tk) := by kernel_rfl
theorem pstep_holds (bi : Int) (bf : Int) (bv : Int) (bt : Int) (bm : Int) (be : Int) (bd : Int) (po : Int) (sp : Int) (re : Int) (pr : Int) (fl : Int) (l : List Int) (t : Int) (tq : Int) (ld : Int) (tk : Int)  : (cnd (!((bOk bi bf bv bt bm be bd) && (gB bi bd po sp re pr fl l)))
  (((((0 : Int) = (kE (stE (bOk bi bf bv bt bm be bd) (gB bi bd po sp re pr fl l) (aOk t tq ld tk)) (xPo po sp tk))) ∧ (((0 : Int) = (kE (stE (bOk bi bf bv bt bm be bd) (gB bi bd po sp re pr fl l) (aOk t tq ld tk)) (xSp bi bf sp re tq ld tk))) ∧ (((0 : Int) = (kE (stE (bOk bi bf bv bt bm be bd) (gB bi bd po sp re pr fl l) (aOk t tq ld tk)) (xRe bi bf sp re tq ld tk))) ∧ (((0 : Int) = (kE (stE (bOk bi bf bv bt bm be bd) (gB bi bd po sp re pr fl l) (aOk t tq ld tk)) (xPr bv bt sp pr t tk))) ∧ (((0 : Int) = (kE (stE (bOk bi bf bv bt bm be bd) (gB bi bd po sp re pr fl l) (aOk t tq ld tk)) fl)) ∧ True))))) ∧ ((((0 : Int) = (kE (stE (bOk bi bf bv bt bm be bd) (gB bi bd po sp re pr fl l) (aOk t tq ld tk)) tk)) ∧ ((0 : Int) = (kE (stE (bOk bi bf bv bt bm be bd) (gB bi bd po sp re pr fl l) (aOk t tq ld tk)) sp))) ∧ ((1 : Int) = (stE (bOk bi bf bv bt bm be bd) (gB bi bd po sp re pr fl l) (aOk t tq ld tk))))) ∧ (((kL (stE (bOk bi bf bv bt bm be bd) (gB bi bd po sp re pr fl l) (aOk t tq ld tk)) l) = ([] : List Int)) ∧ True))
  (cnd ((((!(btw t (0 : Int) (1000 : Int))) || (!(btw tq (-(5000 : Int)) (10000 : Int)))) || (!(btw ld (-(10000 : Int)) (10000 : Int)))) || (!(btw tk (1 : Int) (10000 : Int))))
    (((((0 : Int) = (kE (stE (bOk bi bf bv bt bm be bd) (gB bi bd po sp re pr fl l) (aOk t tq ld tk)) (xPo po sp tk))) ∧ (((0 : Int) = (kE (stE (bOk bi bf bv bt bm be bd) (gB bi bd po sp re pr fl l) (aOk t tq ld tk)) (xSp bi bf sp re tq ld tk))) ∧ (((0 : Int) = (kE (stE (bOk bi bf bv bt bm be bd) (gB bi bd po sp re pr fl l) (aOk t tq ld tk)) (xRe bi bf sp re tq ld tk))) ∧ (((0 : Int) = (kE (stE (bOk bi bf bv bt bm be bd) (gB bi bd po sp re pr fl l) (aOk t tq ld tk)) (xPr bv bt sp pr t tk))) ∧ (((0 : Int) = (kE (stE (bOk bi bf bv bt bm be bd) (gB bi bd po sp re pr fl l) (aOk t tq ld tk)) fl)) ∧ True))))) ∧ ((((0 : Int) = (kE (stE (bOk bi bf bv bt bm be bd) (gB bi bd po sp re pr fl l) (aOk t tq ld tk)) tk)) ∧ ((0 : Int) = (kE (stE (bOk bi bf bv bt bm be bd) (gB bi bd po sp re pr fl l) (aOk t tq ld tk)) sp))) ∧ ((2 : Int) = (stE (bOk bi bf bv bt bm be bd) (gB bi bd po sp re pr fl l) (aOk t tq ld tk))))) ∧ (((kL (stE (bOk bi bf bv bt bm be bd) (gB bi bd po sp re pr fl l) (aOk t tq ld tk)) l) = ([] : List Int)) ∧ True))
    (cnd (decide ((List.length (([] : List Int) ++ l)) ≤ 4294967296))
      (cnd (inBig (Go.IntKind.wrap Go.IntKind.i64 ((Go.IntKind.wrap Go.IntKind.i64 ((Go.IntKind.wrap Go.IntKind.i64 ((Go.IntKind.wrap Go.IntKind.i64 (tq - ld)) - (Go.IntKind.wrap Go.IntKind.i64 (Int.tdiv (Go.IntKind.wrap Go.IntKind.i64 (bf * sp)) (65536 : Int))))) * tk)) + re)))
        (cnd (decide ((1 : Int) ≤ bi))
          (cnd (inBig bi)
            (cnd (in64 (Go.IntKind.wrap Go.IntKind.i64 ((Go.IntKind.wrap Go.IntKind.i64 ((Go.IntKind.wrap Go.IntKind.i64 ((Go.IntKind.wrap Go.IntKind.i64 (tq - ld)) - (Go.IntKind.wrap Go.IntKind.i64 (Int.tdiv (Go.IntKind.wrap Go.IntKind.i64 (bf * sp)) (65536 : Int))))) * tk)) + re)))
              (cnd (decide ((1 : Int) ≤ bi))
                (cnd (in64 bi)
                  (cnd ((decide ((Go.IntKind.wrap Go.IntKind.i64 (sp + ((Go.IntKind.wrap Go.IntKind.i64 ((Go.IntKind.wrap Go.IntKind.i64 ((Go.IntKind.wrap Go.IntKind.i64 ((Go.IntKind.wrap Go.IntKind.i64 (tq - ld)) - (Go.IntKind.wrap Go.IntKind.i64 (Int.tdiv (Go.IntKind.wrap Go.IntKind.i64 (bf * sp)) (65536 : Int))))) * tk)) + re)) / bi))) < (0 : Int))) || (decide ((262144 : Int) < (Go.IntKind.wrap Go.IntKind.i64 (sp + ((Go.IntKind.wrap Go.IntKind.i64 ((Go.IntKind.wrap Go.IntKind.i64 ((Go.IntKind.wrap Go.IntKind.i64 ((Go.IntKind.wrap Go.IntKind.i64 (tq - ld)) - (Go.IntKind.wrap Go.IntKind.i64 (Int.tdiv (Go.IntKind.wrap Go.IntKind.i64 (bf * sp)) (65536 : Int))))) * tk)) + re)) / bi))))))
                    (cnd (inBig (Go.IntKind.wrap Go.IntKind.i64 ((Go.IntKind.wrap Go.IntKind.i64 ((Go.IntKind.wrap Go.IntKind.i64 (Int.tdiv (Go.IntKind.wrap Go.IntKind.i64 ((Go.IntKind.wrap Go.IntKind.i64 (bt * t)) * (Go.IntKind.wrap Go.IntKind.i64 ((1013 : Int) - pr)))) (1000 : Int))) - (Go.IntKind.wrap Go.IntKind.i64 (Int.tdiv (Go.IntKind.wrap Go.IntKind.i64 (sp * pr)) (1024 : Int))))) * tk)))
                      (cnd (decide ((1 : Int) ≤ (Go.IntKind.wrap Go.IntKind.i64 ((65536 : Int) * bv))))
                        (cnd (inBig (Go.IntKind.wrap Go.IntKind.i64 ((65536 : Int) * bv)))
                          ((((((Int.tmod (Go.IntKind.wrap Go.IntKind.i64 (po + (Go.IntKind.wrap Go.IntKind.i64 (sp * tk)))) (3019898880 : Int)) = (kE (stE (bOk bi bf bv bt bm be bd) (gB bi bd po sp re pr fl l) (aOk t tq ld tk)) (xPo po sp tk))) ∧ (((Min.min (Max.max (Go.IntKind.wrap Go.IntKind.i64 (sp + ((Go.IntKind.wrap Go.IntKind.i64 ((Go.IntKind.wrap Go.IntKind.i64 ((Go.IntKind.wrap Go.IntKind.i64 ((Go.IntKind.wrap Go.IntKind.i64 (tq - ld)) - (Go.IntKind.wrap Go.IntKind.i64 (Int.tdiv (Go.IntKind.wrap Go.IntKind.i64 (bf * sp)) (65536 : Int))))) * tk)) + re)) / bi))) (0 : Int)) (262144 : Int)) = (kE (stE (bOk bi bf bv bt bm be bd) (gB bi bd po sp re pr fl l) (aOk t tq ld tk)) (xSp bi bf sp re tq ld tk))) ∧ (((0 : Int) = (kE (stE (bOk bi bf bv bt bm be bd) (gB bi bd po sp re pr fl l) (aOk t tq ld tk)) (xRe bi bf sp re tq ld tk))) ∧ (((Min.min (Max.max (Go.IntKind.wrap Go.IntKind.i64 (pr + ((Go.IntKind.wrap Go.IntKind.i64 ((Go.IntKind.wrap Go.IntKind.i64 ((Go.IntKind.wrap Go.IntKind.i64 (Int.tdiv (Go.IntKind.wrap Go.IntKind.i64 ((Go.IntKind.wrap Go.IntKind.i64 (bt * t)) * (Go.IntKind.wrap Go.IntKind.i64 ((1013 : Int) - pr)))) (1000 : Int))) - (Go.IntKind.wrap Go.IntKind.i64 (Int.tdiv (Go.IntKind.wrap Go.IntKind.i64 (sp * pr)) (1024 : Int))))) * tk)) / (Go.IntKind.wrap Go.IntKind.i64 ((65536 : Int) * bv))))) (50 : Int)) (1013 : Int)) = (kE (stE (bOk bi bf bv bt bm be bd) (gB bi bd po sp re pr fl l) (aOk t tq ld tk)) (xPr bv bt sp pr t tk))) ∧ ((fl = (kE (stE (bOk bi bf bv bt bm be bd) (gB bi bd po sp re pr fl l) (aOk t tq ld tk)) fl)) ∧ True))))) ∧ (((tk = (kE (stE (bOk bi bf bv bt bm be bd) (gB bi bd po sp re pr fl l) (aOk t tq ld tk)) tk)) ∧ (sp = (kE (stE (bOk bi bf bv bt bm be bd) (gB bi bd po sp re pr fl l) (aOk t tq ld tk)) sp))) ∧ ((0 : Int) = (stE (bOk bi bf bv bt bm be bd) (gB bi bd po sp re pr fl l) (aOk t tq ld tk))))) ∧ (((([] : List Int) ++ l) = (kL (stE (bOk bi bf bv bt bm be bd) (gB bi bd po sp re pr fl l) (aOk t tq ld tk)) l)) ∧ True)) ∧ (((((Int.tmod (Go.IntKind.wrap Go.IntKind.i64 (po + (Go.IntKind.wrap Go.IntKind.i64 (sp * tk)))) (3019898880 : Int)) = (kE (stE (bOk bi bf bv bt bm be bd) (gB bi bd po sp re pr fl l) (aOk t tq ld tk)) (xPo po sp tk))) ∧ (((Min.min (Max.max (Go.IntKind.wrap Go.IntKind.i64 (sp + ((Go.IntKind.wrap Go.IntKind.i64 ((Go.IntKind.wrap Go.IntKind.i64 ((Go.IntKind.wrap Go.IntKind.i64 ((Go.IntKind.wrap Go.IntKind.i64 (tq - ld)) - (Go.IntKind.wrap Go.IntKind.i64 (Int.tdiv (Go.IntKind.wrap Go.IntKind.i64 (bf * sp)) (65536 : Int))))) * tk)) + re)) / bi))) (0 : Int)) (262144 : Int)) = (kE (stE (bOk bi bf bv bt bm be bd) (gB bi bd po sp re pr fl l) (aOk t tq ld tk)) (xSp bi bf sp re tq ld tk))) ∧ (((0 : Int) = (kE (stE (bOk bi bf bv bt bm be bd) (gB bi bd po sp re pr fl l) (aOk t tq ld tk)) (xRe bi bf sp re tq ld tk))) ∧ (((Min.min (Max.max (Go.IntKind.wrap Go.IntKind.i64 (pr + ((Go.IntKind.wrap Go.IntKind.i64 ((Go.IntKind.wrap Go.IntKind.i64 ((Go.IntKind.wrap Go.IntKind.i64 (Int.tdiv (Go.IntKind.wrap Go.IntKind.i64 ((Go.IntKind.wrap Go.IntKind.i64 (bt * t)) * (Go.IntKind.wrap Go.IntKind.i64 ((1013 : Int) - pr)))) (1000 : Int))) - (Go.IntKind.wrap Go.IntKind.i64 (Int.tdiv (Go.IntKind.wrap Go.IntKind.i64 (sp * pr)) (1024 : Int))))) * tk)) / (Go.IntKind.wrap Go.IntKind.i64 ((65536 : Int) * bv))))) (50 : Int)) (1013 : Int)) = (kE (stE (bOk bi bf bv bt bm be bd) (gB bi bd po sp re pr fl l) (aOk t tq ld tk)) (xPr bv bt sp pr t tk))) ∧ ((fl = (kE (stE (bOk bi bf bv bt bm be bd) (gB bi bd po sp re pr fl l) (aOk t tq ld tk)) fl)) ∧ True))))) ∧ (((tk = (kE (stE (bOk bi bf bv bt bm be bd) (gB bi bd po sp re pr fl l) (aOk t tq ld tk)) tk)) ∧ (sp = (kE (stE (bOk bi bf bv bt bm be bd) (gB bi bd po sp re pr fl l) (aOk t tq ld tk)) sp))) ∧ ((0 : Int) = (stE (bOk bi bf bv bt bm be bd) (gB bi bd po sp re pr fl l) (aOk t tq ld tk))))) ∧ (((([] : List Int) ++ l) = (kL (stE (bOk bi bf bv bt bm be bd) (gB bi bd po sp re pr fl l) (aOk t tq ld tk)) l)) ∧ True)))
                          False)
                        False)
                      False)
                    (cnd (inBig (Go.IntKind.wrap Go.IntKind.i64 ((Go.IntKind.wrap Go.IntKind.i64 ((Go.IntKind.wrap Go.IntKind.i64 (Int.tdiv (Go.IntKind.wrap Go.IntKind.i64 ((Go.IntKind.wrap Go.IntKind.i64 (bt * t)) * (Go.IntKind.wrap Go.IntKind.i64 ((1013 : Int) - pr)))) (1000 : Int))) - (Go.IntKind.wrap Go.IntKind.i64 (Int.tdiv (Go.IntKind.wrap Go.IntKind.i64 (sp * pr)) (1024 : Int))))) * tk)))
                      (cnd (decide ((1 : Int) ≤ (Go.IntKind.wrap Go.IntKind.i64 ((65536 : Int) * bv))))
                        (cnd (inBig (Go.IntKind.wrap Go.IntKind.i64 ((65536 : Int) * bv)))
                          ((((((Int.tmod (Go.IntKind.wrap Go.IntKind.i64 (po + (Go.IntKind.wrap Go.IntKind.i64 (sp * tk)))) (3019898880 : Int)) = (kE (stE (bOk bi bf bv bt bm be bd) (gB bi bd po sp re pr fl l) (aOk t tq ld tk)) (xPo po sp tk))) ∧ (((Min.min (Max.max (Go.IntKind.wrap Go.IntKind.i64 (sp + ((Go.IntKind.wrap Go.IntKind.i64 ((Go.IntKind.wrap Go.IntKind.i64 ((Go.IntKind.wrap Go.IntKind.i64 ((Go.IntKind.wrap Go.IntKind.i64 (tq - ld)) - (Go.IntKind.wrap Go.IntKind.i64 (Int.tdiv (Go.IntKind.wrap Go.IntKind.i64 (bf * sp)) (65536 : Int))))) * tk)) + re)) / bi))) (0 : Int)) (262144 : Int)) = (kE (stE (bOk bi bf bv bt bm be bd) (gB bi bd po sp re pr fl l) (aOk t tq ld tk)) (xSp bi bf sp re tq ld tk))) ∧ ((((Go.IntKind.wrap Go.IntKind.i64 ((Go.IntKind.wrap Go.IntKind.i64 ((Go.IntKind.wrap Go.IntKind.i64 ((Go.IntKind.wrap Go.IntKind.i64 (tq - ld)) - (Go.IntKind.wrap Go.IntKind.i64 (Int.tdiv (Go.IntKind.wrap Go.IntKind.i64 (bf * sp)) (65536 : Int))))) * tk)) + re)) % bi) = (kE (stE (bOk bi bf bv bt bm be bd) (gB bi bd po sp re pr fl l) (aOk t tq ld tk)) (xRe bi bf sp re tq ld tk))) ∧ (((Min.min (Max.max (Go.IntKind.wrap Go.IntKind.i64 (pr + ((Go.IntKind.wrap Go.IntKind.i64 ((Go.IntKind.wrap Go.IntKind.i64 ((Go.IntKind.wrap Go.IntKind.i64 (Int.tdiv (Go.IntKind.wrap Go.IntKind.i64 ((Go.IntKind.wrap Go.IntKind.i64 (bt * t)) * (Go.IntKind.wrap Go.IntKind.i64 ((1013 : Int) - pr)))) (1000 : Int))) - (Go.IntKind.wrap Go.IntKind.i64 (Int.tdiv (Go.IntKind.wrap Go.IntKind.i64 (sp * pr)) (1024 : Int))))) * tk)) / (Go.IntKind.wrap Go.IntKind.i64 ((65536 : Int) * bv))))) (50 : Int)) (1013 : Int)) = (kE (stE (bOk bi bf bv bt bm be bd) (gB bi bd po sp re pr fl l) (aOk t tq ld tk)) (xPr bv bt sp pr t tk))) ∧ ((fl = (kE (stE (bOk bi bf bv bt bm be bd) (gB bi bd po sp re pr fl l) (aOk t tq ld tk)) fl)) ∧ True))))) ∧ (((tk = (kE (stE (bOk bi bf bv bt bm be bd) (gB bi bd po sp re pr fl l) (aOk t tq ld tk)) tk)) ∧ (sp = (kE (stE (bOk bi bf bv bt bm be bd) (gB bi bd po sp re pr fl l) (aOk t tq ld tk)) sp))) ∧ ((0 : Int) = (stE (bOk bi bf bv bt bm be bd) (gB bi bd po sp re pr fl l) (aOk t tq ld tk))))) ∧ (((([] : List Int) ++ l) = (kL (stE (bOk bi bf bv bt bm be bd) (gB bi bd po sp re pr fl l) (aOk t tq ld tk)) l)) ∧ True)) ∧ (((((Int.tmod (Go.IntKind.wrap Go.IntKind.i64 (po + (Go.IntKind.wrap Go.IntKind.i64 (sp * tk)))) (3019898880 : Int)) = (kE (stE (bOk bi bf bv bt bm be bd) (gB bi bd po sp re pr fl l) (aOk t tq ld tk)) (xPo po sp tk))) ∧ (((Min.min (Max.max (Go.IntKind.wrap Go.IntKind.i64 (sp + ((Go.IntKind.wrap Go.IntKind.i64 ((Go.IntKind.wrap Go.IntKind.i64 ((Go.IntKind.wrap Go.IntKind.i64 ((Go.IntKind.wrap Go.IntKind.i64 (tq - ld)) - (Go.IntKind.wrap Go.IntKind.i64 (Int.tdiv (Go.IntKind.wrap Go.IntKind.i64 (bf * sp)) (65536 : Int))))) * tk)) + re)) / bi))) (0 : Int)) (262144 : Int)) = (kE (stE (bOk bi bf bv bt bm be bd) (gB bi bd po sp re pr fl l) (aOk t tq ld tk)) (xSp bi bf sp re tq ld tk))) ∧ ((((Go.IntKind.wrap Go.IntKind.i64 ((Go.IntKind.wrap Go.IntKind.i64 ((Go.IntKind.wrap Go.IntKind.i64 ((Go.IntKind.wrap Go.IntKind.i64 (tq - ld)) - (Go.IntKind.wrap Go.IntKind.i64 (Int.tdiv (Go.IntKind.wrap Go.IntKind.i64 (bf * sp)) (65536 : Int))))) * tk)) + re)) % bi) = (kE (stE (bOk bi bf bv bt bm be bd) (gB bi bd po sp re pr fl l) (aOk t tq ld tk)) (xRe bi bf sp re tq ld tk))) ∧ (((Min.min (Max.max (Go.IntKind.wrap Go.IntKind.i64 (pr + ((Go.IntKind.wrap Go.IntKind.i64 ((Go.IntKind.wrap Go.IntKind.i64 ((Go.IntKind.wrap Go.IntKind.i64 (Int.tdiv (Go.IntKind.wrap Go.IntKind.i64 ((Go.IntKind.wrap Go.IntKind.i64 (bt * t)) * (Go.IntKind.wrap Go.IntKind.i64 ((1013 : Int) - pr)))) (1000 : Int))) - (Go.IntKind.wrap Go.IntKind.i64 (Int.tdiv (Go.IntKind.wrap Go.IntKind.i64 (sp * pr)) (1024 : Int))))) * tk)) / (Go.IntKind.wrap Go.IntKind.i64 ((65536 : Int) * bv))))) (50 : Int)) (1013 : Int)) = (kE (stE (bOk bi bf bv bt bm be bd) (gB bi bd po sp re pr fl l) (aOk t tq ld tk)) (xPr bv bt sp pr t tk))) ∧ ((fl = (kE (stE (bOk bi bf bv bt bm be bd) (gB bi bd po sp re pr fl l) (aOk t tq ld tk)) fl)) ∧ True))))) ∧ (((tk = (kE (stE (bOk bi bf bv bt bm be bd) (gB bi bd po sp re pr fl l) (aOk t tq ld tk)) tk)) ∧ (sp = (kE (stE (bOk bi bf bv bt bm be bd) (gB bi bd po sp re pr fl l) (aOk t tq ld tk)) sp))) ∧ ((0 : Int) = (stE (bOk bi bf bv bt bm be bd) (gB bi bd po sp re pr fl l) (aOk t tq ld tk))))) ∧ (((([] : List Int) ++ l) = (kL (stE (bOk bi bf bv bt bm be bd) (gB bi bd po sp re pr fl l) (aOk t tq ld tk)) l)) ∧ True)))
                          False)
                        False)
                      False))
                  False)
                False)
              False)
            False)
          False)
        False)
      False))) := by
  cases hb : bOk bi bf bv bt bm be bd with
  | false => simp [cnd, stE, kE, kL]
  | true =>
    cases hg : gB bi bd po sp re pr fl l with
    | false => simp [cnd, stE, kE, kL]
    | true =>
      have ea : ((((!btw t 0 1000) || (!btw tq (-5000) 10000)) || (!btw ld (-10000) 10000)) || (!btw tk 1 10000)) = !aOk t tq ld tk := by
        simp only [aOk, Bool.not_and]
      rw [ea]
      cases ha : aOk t tq ld tk with
      | false => simp [cnd, stE, kE, kL]
      | true =>
        have hgH : gH bi bd po sp re pr fl l.length = true := by
          unfold gB at hg
          simp only [Bool.and_eq_true] at hg
          exact hg.1
        have hb2 := bOk_iff.1 hb
        have hg2 := gH_iff.1 hgH
        have ha2 := aOk_iff.1 ha
        have m1 := mulN (a := bf) (b := sp) (A := 65536) (B := 262144) (by omega) (by omega) (by omega) (by omega)
        have m2 := quo_pos m1.1 (show (1 : Int) ≤ 65536 by omega)
        have m3 : bf * sp / 65536 ≤ 262144 := by omega
        have m4 := mulS (x := tq - ld - bf * sp / 65536) (k := tk) (A := 300000) (B := 10000) (by omega) (by omega) (by omega) (by omega) (by omega)
        have m5 := mulN (a := sp) (b := tk) (A := 262144) (B := 10000) (by omega) (by omega) (by omega) (by omega)
        have m6 := mulN (a := bt) (b := t) (A := 65536) (B := 1000) (by omega) (by omega) (by omega) (by omega)
        have m7 := mulN (a := bt * t) (b := 1013 - pr) (A := 65536000) (B := 1000) (by omega) (by omega) (by omega) (by omega)
        have m8 := quo_pos m7.1 (show (1 : Int) ≤ 1000 by omega)
        have m9 := mulN (a := sp) (b := pr) (A := 262144) (B := 1013) (by omega) (by omega) (by omega) (by omega)
        have m10 := quo_pos m9.1 (show (1 : Int) ≤ 1024 by omega)
        have m11 := mulS (x := bt * t * (1013 - pr) / 1000 - sp * pr / 1024) (k := tk) (A := 1000000000) (B := 10000) (by omega) (by omega) (by omega) (by omega) (by omega)
        have q1 := quo_s (a := nS bf sp re tq ld tk) (b := bi) (A := 4000000000) (by unfold nS; omega) (by unfold nS; omega) (by omega) (by omega)
        have q2 := quo_s (a := (bt * t * (1013 - pr) / 1000 - sp * pr / 1024) * tk) (b := 65536 * bv) (A := 10000000000000) (by omega) (by omega) (by omega) (by omega)
        rw [w64 (n := tq - ld) (by omega) (by omega), w64 (n := bf * sp) (by omega) (by omega), tdiv_pos m1.1, w64 (n := bf * sp / 65536) (by omega) (by omega), w64 (n := tq - ld - bf * sp / 65536) (by omega) (by omega), w64 (n := (tq - ld - bf * sp / 65536) * tk) (by omega) (by omega), w64 (n := (tq - ld - bf * sp / 65536) * tk + re) (by omega) (by omega)]
        change cnd _ (cnd (inBig (nS bf sp re tq ld tk)) (cnd _ (cnd _ (cnd (in64 (nS bf sp re tq ld tk)) _ _) _) _) _) _
        rw [show (tq - ld - bf * sp / 65536) * tk + re = nS bf sp re tq ld tk from rfl, w64 (n := sp + nS bf sp re tq ld tk / bi) (by omega) (by omega), show sp + nS bf sp re tq ld tk / bi = rS bi bf sp re tq ld tk from rfl]
        rw [w64 (n := bt * t) (by omega) (by omega), w64 (n := 1013 - pr) (by omega) (by omega), w64 (n := bt * t * (1013 - pr)) (by omega) (by omega), tdiv_pos m7.1, w64 (n := bt * t * (1013 - pr) / 1000) (by omega) (by omega), w64 (n := sp * pr) (by omega) (by omega), tdiv_pos m9.1, w64 (n := sp * pr / 1024) (by omega) (by omega), w64 (n := bt * t * (1013 - pr) / 1000 - sp * pr / 1024) (by omega) (by omega), w64 (n := (bt * t * (1013 - pr) / 1000 - sp * pr / 1024) * tk) (by omega) (by omega), w64 (n := 65536 * bv) (by omega) (by omega), w64 (n := pr + ((bt * t * (1013 - pr) / 1000 - sp * pr / 1024) * tk) / (65536 * bv)) (by omega) (by omega), w64 (n := sp * tk) (by omega) (by omega), w64 (n := po + sp * tk) (by omega) (by omega), tmod_pos (by omega : 0 ≤ po + sp * tk)]
        have nb : -4000000000 ≤ nS bf sp re tq ld tk ∧ nS bf sp re tq ld tk ≤ 4000000000 := by unfold nS; omega
        have j1 : decide (([] ++ l).length ≤ 4294967296) = true := by
          have : (l.length : Int) ≤ 21 := by omega
          simp; omega
        have j2 : inBig (nS bf sp re tq ld tk) = true := inBig_iff.2 (by omega)
        have j3 : decide (1 ≤ bi) = true := by simp; omega
        have j4 : inBig bi = true := inBig_iff.2 (by omega)
        have j5 : in64 (nS bf sp re tq ld tk) = true := in64_iff.2 (by omega)
        have j6 : in64 bi = true := in64_iff.2 (by omega)
        have j7 : inBig ((bt * t * (1013 - pr) / 1000 - sp * pr / 1024) * tk) = true := inBig_iff.2 (by omega)
        have j8 : decide (1 ≤ 65536 * bv) = true := by simp; omega
        have j9 : inBig (65536 * bv) = true := inBig_iff.2 (by omega)
        have hz : stE true true true = 0 := rfl
        simp only [j1, j2, j3, j4, j5, j6, j7, j8, j9, cnd, Bool.not_true, hz, kE_zero, kL_zero]
        by_cases hl : rS bi bf sp re tq ld tk < 0 ∨ 262144 < rS bi bf sp re tq ld tk
        · have j10 : (decide (rS bi bf sp re tq ld tk < 0) || decide (262144 < rS bi bf sp re tq ld tk)) = true := by simpa using hl
          simp only [j10]
          simp [xPo, xSp, xRe, xPr, dPr, hl]
        · have j10 : (decide (rS bi bf sp re tq ld tk < 0) || decide (262144 < rS bi bf sp re tq ld tk)) = false := by simp; omega
          simp only [j10]
          simp [xPo, xSp, xRe, xPr, dPr, hl]
set_option maxHeartbeats 2000000 in
theorem pstep_ok : SoundEnt Try.prog pstep_e := by
  refine ent_of_ex (Γ := (inlOf Try.prog [within_e, pgood_e, floor_e, mod_e, clamp_e] [(30, Try.f30), (31, Try.f31)] [])) (inlOf_sound (scons within_ok (scons pgood_ok (scons floor_ok (scons mod_ok (scons clamp_ok snil))))) (by kernel_rfl) ⟨⟨Try.func30, by kernel_rfl, by kernel_rfl⟩, ⟨Try.func31, by kernel_rfl, by kernel_rfl⟩, trivial⟩ spnil) (by kernel_rfl) Try.func13 (by kernel_rfl) (by kernel_rfl) (fun args rows caps res h ho => ?_)
  change pstep_go args rows caps = some res at h
  unfold pstep_go at h
  split at h
  · simp only [Option.some.injEq] at h
    subst h
    rename_i q0_ q1_ q2_ q3_ q4_ q5_ q6_ q7_ q8_ q9_ q10_ q11_ q13_ q14_ q15_ q16_ q12_
    skip
    exact EX.of (pstep_tree q0_ q1_ q2_ q3_ q4_ q5_ q6_ q7_ q8_ q9_ q10_ q11_ q12_ q13_ q14_ q15_ q16_) (pstep_holds q0_ q1_ q2_ q3_ q4_ q5_ q6_ q7_ q8_ q9_ q10_ q11_ q12_ q13_ q14_ q15_ q16_)
  · cases h
end Go.Proofs.Ytnioihmchajmlaa

