/- Runs of knocking. -/
import Derived.Test.YtoklfnonbfcdlaaK2
namespace Go.Proofs.Ytoklfnonbfcdlaa
set_option linter.unusedVariables false
set_option linter.unusedSimpArgs false
open Go.RowKit

theorem mod4096 {x : Int} (h : 0 ≤ x) : Int.tmod x 4096 = x % 4096 := tmod_pos h
theorem getD_u16 {l : List Int} (h : wfL .u16 l = true) (i : Nat) : 0 ≤ l.getD i 0 ∧ l.getD i 0 ≤ 65535 := by
  by_cases hi : i < l.length
  · have hm : l.getD i 0 ∈ l := by
      rw [List.getD_eq_getElem?_getD, List.getElem?_eq_getElem hi]
      exact List.getElem_mem _
    exact wfU16 (List.all_eq_true.1 h _ hm)
  · rw [List.getD_eq_getElem?_getD, List.getElem?_eq_none (by omega)]
    decide
def runs_res (l : List Int) (t : Int) : CRes := ⟨[wfL .u16 l, wfI .u8 t], .one (.cel (.bool (true))), []⟩
def runs_go : List TV → List RowA → Option CRes := fun args rows =>
  match args, rows with
  | [.cel (.row 0), .cel (.int .u8 t)], [.ints .u16 l] => some (runs_res l t)
  | _, _ => none
def runs_e : Ent := ⟨5, [.ints .u16 []], runs_go⟩
def runs_L1_F (l : List Int) (t : Int) (i : Int) (r : Int) (n : Int) (q : Int) : St := ⟨108, [], [(27, (.one (.cel (.int .i64 i)))), (26, (.one (.cel (.int .i64 (((List.length l) : Nat) : Int))))), (25, (.one (.cel (.row 0)))), (5, (.one (.cel (.ptr 0 0)))), (4, (.one (.cel (.bool Bool.false)))), (1, (.one (.cel (.int .u8 t))))], [[(.int .i64 r), (.int .i64 n), (.int .i64 q)]], [⟨(.ints .u16 l), none⟩]⟩
def runs_L1_I (l : List Int) (t : Int) (i : Int) (r : Int) (n : Int) (q : Int) : Prop := (0 ≤ i ∧ i ≤ l.length ∧ (l.length : Int) ≤ 200) ∧ (knockB r n q = true)
def runs_L1_m (l : List Int) (t : Int) (i : Int) (r : Int) (n : Int) (q : Int) : Nat := (l.length - i).toNat
def runs_L1_N (l : List Int) (t : Int) (i' : Int) (r' : Int) (n' : Int) (q' : Int) (s : St) : Prop := getI s 27 fun i => getCI s 0 0 fun r => getCI s 0 1 fun n => getCI s 0 2 fun q => runs_L1_I l t i r n q ∧ runs_L1_m l t i r n q < runs_L1_m l t i' r' n' q' ∧ SubA s (runs_L1_F l t i r n q)
def runs_L1_E (l : List Int) (t : Int) (s : St) : Prop := getI s 27 fun i => getCI s 0 0 fun r => getCI s 0 1 fun n => getCI s 0 2 fun q => runs_L1_I l t i r n q ∧ SubA s (runs_L1_F l t i r n q)
def runs_L1_S1 (l : List Int) (t : Int) : St := ⟨108, [18], [(27, (.one (.cel (.int .i64 (0 : Int))))), (26, (.one (.cel (.int .i64 (((List.length l) : Nat) : Int))))), (25, (.one (.cel (.row 0)))), (5, (.one (.cel (.ptr 0 0)))), (24, (.one (.agg [(.int .i64 (0 : Int)), (.int .i64 (100 : Int)), (.int .i64 (0 : Int))]))), (22, (.one (.cel (.bool ((!Bool.true) || (decide ((200 : Int) < (((List.length l) : Nat) : Int)))))))), (21, (.spec 18 Bool.false (.cel (.bool (decide ((200 : Int) < (((List.length l) : Nat) : Int))))))), (20, (.spec 18 Bool.false (.cel (.int .i64 (((List.length l) : Nat) : Int))))), (19, (.spec 18 Bool.false (.cel (.row 0)))), (18, (.one (.cel (.bool (!Bool.true))))), (17, (.one (.cel (.bool (!Bool.true))))), (16, (.one (.cel (.bool Bool.true)))), (4, (.one (.cel (.bool Bool.false)))), (0, (.one (.cel (.row 0)))), (1, (.one (.cel (.int .u8 t))))], [[(.int .i64 (0 : Int)), (.int .i64 (100 : Int)), (.int .i64 (0 : Int))]], [⟨(.ints .u16 l), none⟩]⟩
def runs_L2_F (l : List Int) (t : Int) (i : Int) (r : Int) (n : Int) (q : Int) (j : Int) (r2 : Int) (n2 : Int) (q2 : Int) : St := ⟨108, [], [(77, (.one (.cel (.int .i64 j)))), (76, (.one (.cel (.int .i64 (Go.IntKind.wrap Go.IntKind.i64 ((100 : Int) * (Go.IntKind.wrap Go.IntKind.i64 ((1 : Int) + (Int.tmod (Go.IntKind.wrap Go.IntKind.i64 t) (61 : Int)))))))))), (12, (.one (.cel (.int .i64 (Go.IntKind.wrap Go.IntKind.i64 ((1 : Int) + (Int.tmod (Go.IntKind.wrap Go.IntKind.i64 t) (61 : Int)))))))), (11, (.one (.cel (.ptr 1 0)))), (5, (.one (.cel (.ptr 0 0)))), (4, (.one (.cel (.bool Bool.false))))], [[(.int .i64 r2), (.int .i64 n2), (.int .i64 q2)], [(.int .i64 r), (.int .i64 n), (.int .i64 q)]], [⟨(.ints .u16 l), none⟩]⟩
def runs_L2_I (l : List Int) (t : Int) (i : Int) (r : Int) (n : Int) (q : Int) (j : Int) (r2 : Int) (n2 : Int) (q2 : Int) : Prop := (0 ≤ j ∧ j ≤ 100 * (1 + t % 61) ∧ 0 ≤ n2 ∧ n2 ≤ 4095 ∧ q2 = (q + j) % 100 ∧ r2 = max (r - 16 * ((q + j) / 100)) 0)
def runs_L2_m (l : List Int) (t : Int) (i : Int) (r : Int) (n : Int) (q : Int) (j : Int) (r2 : Int) (n2 : Int) (q2 : Int) : Nat := (100 * (1 + t % 61) - j).toNat
def runs_L2_N (l : List Int) (t : Int) (i : Int) (r : Int) (n : Int) (q : Int) (j' : Int) (r2' : Int) (n2' : Int) (q2' : Int) (s : St) : Prop := getI s 77 fun j => getCI s 0 0 fun r2 => getCI s 0 1 fun n2 => getCI s 0 2 fun q2 => runs_L2_I l t i r n q j r2 n2 q2 ∧ runs_L2_m l t i r n q j r2 n2 q2 < runs_L2_m l t i r n q j' r2' n2' q2' ∧ SubA s (runs_L2_F l t i r n q j r2 n2 q2)
def runs_L2_E (l : List Int) (t : Int) (i : Int) (r : Int) (n : Int) (q : Int) (s : St) : Prop := getI s 77 fun j => getCI s 0 0 fun r2 => getCI s 0 1 fun n2 => getCI s 0 2 fun q2 => runs_L2_I l t i r n q j r2 n2 q2 ∧ SubA s (runs_L2_F l t i r n q j r2 n2 q2)
def runs_L2_S1 (l : List Int) (t : Int) (i : Int) (r : Int) (n : Int) (q : Int) : St := ⟨108, [], [(77, (.one (.cel (.int .i64 (0 : Int))))), (76, (.one (.cel (.int .i64 (Go.IntKind.wrap Go.IntKind.i64 ((100 : Int) * (Go.IntKind.wrap Go.IntKind.i64 ((1 : Int) + (Int.tmod (Go.IntKind.wrap Go.IntKind.i64 t) (61 : Int)))))))))), (75, (.one (.cel (.int .i64 (Go.IntKind.wrap Go.IntKind.i64 ((1 : Int) + (Int.tmod (Go.IntKind.wrap Go.IntKind.i64 t) (61 : Int)))))))), (12, (.one (.cel (.int .i64 (Go.IntKind.wrap Go.IntKind.i64 ((1 : Int) + (Int.tmod (Go.IntKind.wrap Go.IntKind.i64 t) (61 : Int)))))))), (74, (.one (.cel (.int .i64 (Go.IntKind.wrap Go.IntKind.i64 ((1 : Int) + (Int.tmod (Go.IntKind.wrap Go.IntKind.i64 t) (61 : Int)))))))), (73, (.one (.cel (.int .i64 (Int.tmod (Go.IntKind.wrap Go.IntKind.i64 t) (61 : Int)))))), (72, (.one (.cel (.int .i64 (Go.IntKind.wrap Go.IntKind.i64 t))))), (71, (.one (.cel (.int .u8 t)))), (11, (.one (.cel (.ptr 1 0)))), (70, (.one (.agg [(.int .i64 r), (.int .i64 n), (.int .i64 q)]))), (28, (.one (.cel (.bool (decide (i < (((List.length l) : Nat) : Int))))))), (27, (.one (.cel (.int .i64 i)))), (26, (.one (.cel (.int .i64 (((List.length l) : Nat) : Int))))), (25, (.one (.cel (.row 0)))), (5, (.one (.cel (.ptr 0 0)))), (4, (.one (.cel (.bool Bool.false)))), (1, (.one (.cel (.int .u8 t))))], [[(.int .i64 r), (.int .i64 n), (.int .i64 q)], [(.int .i64 r), (.int .i64 n), (.int .i64 q)]], [⟨(.ints .u16 l), none⟩]⟩
def runs_L2_T (l : List Int) (t : Int) (i : Int) (r : Int) (n : Int) (q : Int) (j : Int) (r2 : Int) (n2 : Int) (q2 : Int) : Prop := (cnd (decide (j < (Go.IntKind.wrap Go.IntKind.i64 ((100 : Int) * (Go.IntKind.wrap Go.IntKind.i64 ((1 : Int) + (Int.tmod (Go.IntKind.wrap Go.IntKind.i64 t) (61 : Int))))))))
  (cnd ((!(decide ((stErr r2 n2 q2 (0 : Int)) = (0 : Int)))) || ((okS r2 n2 q2 (0 : Int)) && (knocks n2 (0 : Int))))
    (Bool.false = Bool.true)
    ((runs_L2_I l t i r n q (Go.IntKind.wrap Go.IntKind.i64 (j + (1 : Int))) (if ((okS r2 n2 q2 (0 : Int)) = Bool.true) then (stR r2 n2 q2 (0 : Int)) else (0 : Int)) (if ((okS r2 n2 q2 (0 : Int)) = Bool.true) then (stN n2 (0 : Int)) else (0 : Int)) (if ((okS r2 n2 q2 (0 : Int)) = Bool.true) then (stQ n2 q2 (0 : Int)) else (0 : Int))) ∧ (((runs_L2_m l t i r n q (Go.IntKind.wrap Go.IntKind.i64 (j + (1 : Int))) (if ((okS r2 n2 q2 (0 : Int)) = Bool.true) then (stR r2 n2 q2 (0 : Int)) else (0 : Int)) (if ((okS r2 n2 q2 (0 : Int)) = Bool.true) then (stN n2 (0 : Int)) else (0 : Int)) (if ((okS r2 n2 q2 (0 : Int)) = Bool.true) then (stQ n2 q2 (0 : Int)) else (0 : Int))) < (runs_L2_m l t i r n q j r2 n2 q2)) ∧ (((Go.IntKind.wrap Go.IntKind.i64 (j + (1 : Int))) = (Go.IntKind.wrap Go.IntKind.i64 (j + (1 : Int)))) ∧ (((Go.IntKind.wrap Go.IntKind.i64 ((100 : Int) * (Go.IntKind.wrap Go.IntKind.i64 ((1 : Int) + (Int.tmod (Go.IntKind.wrap Go.IntKind.i64 t) (61 : Int)))))) = (Go.IntKind.wrap Go.IntKind.i64 ((100 : Int) * (Go.IntKind.wrap Go.IntKind.i64 ((1 : Int) + (Int.tmod (Go.IntKind.wrap Go.IntKind.i64 t) (61 : Int))))))) ∧ (((Go.IntKind.wrap Go.IntKind.i64 ((1 : Int) + (Int.tmod (Go.IntKind.wrap Go.IntKind.i64 t) (61 : Int)))) = (Go.IntKind.wrap Go.IntKind.i64 ((1 : Int) + (Int.tmod (Go.IntKind.wrap Go.IntKind.i64 t) (61 : Int))))) ∧ (True ∧ (True ∧ ((Bool.false = Bool.false) ∧ ((((if ((okS r2 n2 q2 (0 : Int)) = Bool.true) then (stR r2 n2 q2 (0 : Int)) else (0 : Int)) = (if ((okS r2 n2 q2 (0 : Int)) = Bool.true) then (stR r2 n2 q2 (0 : Int)) else (0 : Int))) ∧ (((if ((okS r2 n2 q2 (0 : Int)) = Bool.true) then (stN n2 (0 : Int)) else (0 : Int)) = (if ((okS r2 n2 q2 (0 : Int)) = Bool.true) then (stN n2 (0 : Int)) else (0 : Int))) ∧ ((if ((okS r2 n2 q2 (0 : Int)) = Bool.true) then (stQ n2 q2 (0 : Int)) else (0 : Int)) = (if ((okS r2 n2 q2 (0 : Int)) = Bool.true) then (stQ n2 q2 (0 : Int)) else (0 : Int))))) ∧ (((r = r) ∧ ((n = n) ∧ (q = q))) ∧ ((l = l) ∧ True))))))))))))
  (((decide (r2 = (gmax (0 : Int) (Go.IntKind.wrap Go.IntKind.i64 (r - (Go.IntKind.wrap Go.IntKind.i64 ((16 : Int) * (Go.IntKind.wrap Go.IntKind.i64 ((1 : Int) + (Int.tmod (Go.IntKind.wrap Go.IntKind.i64 t) (61 : Int))))))))))) && (decide (q2 = q))) = Bool.true))
set_option maxRecDepth 100000 in
theorem runs_L2_tree (l : List Int) (t : Int) (i : Int) (r : Int) (n : Int) (q : Int) (j : Int) (r2 : Int) (n2 : Int) (q2 : Int) : runs_L2_T l t i r n q j r2 n2 q2 = ex Try.prog (conOf [awake_e, kStep_e, valid_e]) (subC (bodyOf Try.f5) [1, 1, 1, 1, 1, 1, 0, 1, 0, 0]) (nextE (runs_L2_N l t i r n q j r2 n2 q2) (kont Try.prog (conOf [awake_e, kStep_e, valid_e]) (bodyOf Try.f5) [1, 1, 1, 1, 1, 1, 0, 1, 0] (retPost Try.prog Try.f5 1 (runs_res l t)))) (runs_L2_F l t i r n q j r2 n2 q2) := by kernel_rfl
theorem runs_L2_round (l : List Int) (t : Int) (i : Int) (r : Int) (n : Int) (q : Int) (j : Int) (r2 : Int) (n2 : Int) (q2 : Int) (p0 : wfL .u16 l = true) (p1 : wfI .u8 t = true) (hI_L1 : runs_L1_I l t i r n q) (hI_L2 : runs_L2_I l t i r n q j r2 n2 q2) : runs_L2_T l t i r n q j r2 n2 q2 := by
  obtain ⟨-, a3⟩ := hI_L1
  have b3 := knockB_iff.1 a3
  obtain ⟨c1, c2, c3, c4, c5, c6⟩ := hI_L2
  have ht := wfU8 p1
  unfold runs_L2_T
  rw [w64 (n := t) (by omega) (by omega), show Int.tmod t 61 = t % 61 from tmod_pos ht.1, w64 (n := 1 + t % 61) (by omega) (by omega), w64 (n := 100 * (1 + t % 61)) (by omega) (by omega), w64 (n := 16 * (1 + t % 61)) (by omega) (by omega), w64 (n := r - 16 * (1 + t % 61)) (by omega) (by omega), w64 (n := j + 1) (by omega) (by omega)]
  have hv : knockB r2 n2 q2 = true := knockB_iff.2 (by omega)
  have hi : intensityB 0 = true := by decide
  have ho : okS r2 n2 q2 0 = true := by simp [okS, hv, hi]
  have hk : knocks n2 0 = false := by simp [knocks]; omega
  simp only [ho, stErr, hv, hi, if_true, hk]
  by_cases hl : j < 100 * (1 + t % 61)
  · simp only [hl, decide_true, cnd]
    have e1 : stR r2 n2 q2 0 = max (r - 16 * ((q + (j + 1)) / 100)) 0 := by
      unfold stR
      rw [hk]
      simp only [Bool.false_eq_true, if_false]
      split <;> omega
    have e2 : stQ n2 q2 0 = (q + (j + 1)) % 100 := by
      unfold stQ
      rw [hk]
      simp only [Bool.false_eq_true, if_false]
      split <;> omega
    have e3 : 0 ≤ stN n2 0 ∧ stN n2 0 ≤ 4095 := by
      unfold stN
      rw [hk]
      simp only [Bool.false_eq_true, if_false]
      omega
    refine ⟨⟨by omega, by omega, e3.1, e3.2, e2, e1⟩, ?_, ?_⟩
    · unfold runs_L2_m
      omega
    · simp
  · simp only [hl, decide_false, cnd]
    have e : j = 100 * (1 + t % 61) := by omega
    subst e
    simp only [gmax_eq, Bool.and_eq_true, decide_eq_true_eq]
    have e2 : (q + 100 * (1 + t % 61)) / 100 = 1 + t % 61 := by omega
    rw [e2] at c6
    omega
set_option maxRecDepth 100000 in
theorem runs_L2_entry1 (l : List Int) (t : Int) (i : Int) (r : Int) (n : Int) (q : Int) : (((runs_L2_I l t i r n q (0 : Int) r n q) ∧ (((0 : Int) = (0 : Int)) ∧ (((Go.IntKind.wrap Go.IntKind.i64 ((100 : Int) * (Go.IntKind.wrap Go.IntKind.i64 ((1 : Int) + (Int.tmod (Go.IntKind.wrap Go.IntKind.i64 t) (61 : Int)))))) = (Go.IntKind.wrap Go.IntKind.i64 ((100 : Int) * (Go.IntKind.wrap Go.IntKind.i64 ((1 : Int) + (Int.tmod (Go.IntKind.wrap Go.IntKind.i64 t) (61 : Int))))))) ∧ (((Go.IntKind.wrap Go.IntKind.i64 ((1 : Int) + (Int.tmod (Go.IntKind.wrap Go.IntKind.i64 t) (61 : Int)))) = (Go.IntKind.wrap Go.IntKind.i64 ((1 : Int) + (Int.tmod (Go.IntKind.wrap Go.IntKind.i64 t) (61 : Int))))) ∧ (True ∧ (True ∧ ((Bool.false = Bool.false) ∧ (((r = r) ∧ ((n = n) ∧ (q = q))) ∧ (((r = r) ∧ ((n = n) ∧ (q = q))) ∧ ((l = l) ∧ True))))))))))) = runs_L2_E l t i r n q (runs_L2_S1 l t i r n q) := by kernel_rfl
theorem runs_L2_1 (l : List Int) (t : Int) (i : Int) (r : Int) (n : Int) (q : Int) (p0 : wfL .u16 l = true) (p1 : wfI .u8 t = true) (hI_L1 : runs_L1_I l t i r n q) (h : ((runs_L2_I l t i r n q (0 : Int) r n q) ∧ (((0 : Int) = (0 : Int)) ∧ (((Go.IntKind.wrap Go.IntKind.i64 ((100 : Int) * (Go.IntKind.wrap Go.IntKind.i64 ((1 : Int) + (Int.tmod (Go.IntKind.wrap Go.IntKind.i64 t) (61 : Int)))))) = (Go.IntKind.wrap Go.IntKind.i64 ((100 : Int) * (Go.IntKind.wrap Go.IntKind.i64 ((1 : Int) + (Int.tmod (Go.IntKind.wrap Go.IntKind.i64 t) (61 : Int))))))) ∧ (((Go.IntKind.wrap Go.IntKind.i64 ((1 : Int) + (Int.tmod (Go.IntKind.wrap Go.IntKind.i64 t) (61 : Int)))) = (Go.IntKind.wrap Go.IntKind.i64 ((1 : Int) + (Int.tmod (Go.IntKind.wrap Go.IntKind.i64 t) (61 : Int))))) ∧ (True ∧ (True ∧ ((Bool.false = Bool.false) ∧ (((r = r) ∧ ((n = n) ∧ (q = q))) ∧ (((r = r) ∧ ((n = n) ∧ (q = q))) ∧ ((l = l) ∧ True))))))))))) : LoopP (ex Try.prog (conOf [awake_e, kStep_e, valid_e]) (subC (bodyOf Try.f5) [1, 1, 1, 1, 1, 1, 0, 1, 0, 0])) (kont Try.prog (conOf [awake_e, kStep_e, valid_e]) (bodyOf Try.f5) [1, 1, 1, 1, 1, 1, 0, 1, 0] (retPost Try.prog Try.f5 1 (runs_res l t))) (runs_L2_S1 l t i r n q) := by
  have hE : runs_L2_E l t i r n q (runs_L2_S1 l t i r n q) := Eq.mp (runs_L2_entry1 l t i r n q) h
  unfold runs_L2_E at hE
  obtain ⟨j, hE⟩ := getI_of hE
  obtain ⟨r2, hE⟩ := getCI_of hE
  obtain ⟨n2, hE⟩ := getCI_of hE
  obtain ⟨q2, hE⟩ := getCI_of hE
  refine loop_of (α := (Int) × (Int) × (Int) × (Int)) (fun x => runs_L2_F l t i r n q x.1 x.2.1 x.2.2.1 x.2.2.2) (fun x => runs_L2_I l t i r n q x.1 x.2.1 x.2.2.1 x.2.2.2) (fun x => runs_L2_m l t i r n q x.1 x.2.1 x.2.2.1 x.2.2.2) (fun x => runs_L2_N l t i r n q x.1 x.2.1 x.2.2.1 x.2.2.2) (fun x => runs_L2_T l t i r n q x.1 x.2.1 x.2.2.1 x.2.2.2) (fun x s h => ?_) ⟨⟨j, r2, n2, q2⟩, hE⟩ (fun x => runs_L2_tree l t i r n q x.1 x.2.1 x.2.2.1 x.2.2.2) (fun x hI => runs_L2_round l t i r n q x.1 x.2.1 x.2.2.1 x.2.2.2 p0 p1 hI_L1 hI)
  unfold runs_L2_N at h
  obtain ⟨j, h⟩ := getI_of h
  obtain ⟨r2, h⟩ := getCI_of h
  obtain ⟨n2, h⟩ := getCI_of h
  obtain ⟨q2, h⟩ := getCI_of h
  exact ⟨⟨j, r2, n2, q2⟩, h⟩
def runs_L1_T (l : List Int) (t : Int) (i : Int) (r : Int) (n : Int) (q : Int) : Prop := (cnd (decide (i < (((List.length l) : Nat) : Int)))
  (cnd (decide ((0 : Int) ≤ i))
    (cnd (decide (i < (((List.length l) : Nat) : Int)))
      (cnd ((((!(decide ((stErr r n q (Int.tmod (Go.IntKind.wrap Go.IntKind.i64 (List.getD l (Int.toNat i) (0 : Int))) (4096 : Int))) = (0 : Int)))) || (!(knockB (if ((okS r n q (Int.tmod (Go.IntKind.wrap Go.IntKind.i64 (List.getD l (Int.toNat i) (0 : Int))) (4096 : Int))) = Bool.true) then (stR r n q (Int.tmod (Go.IntKind.wrap Go.IntKind.i64 (List.getD l (Int.toNat i) (0 : Int))) (4096 : Int))) else (0 : Int)) (if ((okS r n q (Int.tmod (Go.IntKind.wrap Go.IntKind.i64 (List.getD l (Int.toNat i) (0 : Int))) (4096 : Int))) = Bool.true) then (stN n (Int.tmod (Go.IntKind.wrap Go.IntKind.i64 (List.getD l (Int.toNat i) (0 : Int))) (4096 : Int))) else (0 : Int)) (if ((okS r n q (Int.tmod (Go.IntKind.wrap Go.IntKind.i64 (List.getD l (Int.toNat i) (0 : Int))) (4096 : Int))) = Bool.true) then (stQ n q (Int.tmod (Go.IntKind.wrap Go.IntKind.i64 (List.getD l (Int.toNat i) (0 : Int))) (4096 : Int))) else (0 : Int))))) || ((!((okS r n q (Int.tmod (Go.IntKind.wrap Go.IntKind.i64 (List.getD l (Int.toNat i) (0 : Int))) (4096 : Int))) && (knocks n (Int.tmod (Go.IntKind.wrap Go.IntKind.i64 (List.getD l (Int.toNat i) (0 : Int))) (4096 : Int))))) && (decide (r < (if ((okS r n q (Int.tmod (Go.IntKind.wrap Go.IntKind.i64 (List.getD l (Int.toNat i) (0 : Int))) (4096 : Int))) = Bool.true) then (stR r n q (Int.tmod (Go.IntKind.wrap Go.IntKind.i64 (List.getD l (Int.toNat i) (0 : Int))) (4096 : Int))) else (0 : Int)))))) || (((okS r n q (Int.tmod (Go.IntKind.wrap Go.IntKind.i64 (List.getD l (Int.toNat i) (0 : Int))) (4096 : Int))) && (knocks n (Int.tmod (Go.IntKind.wrap Go.IntKind.i64 (List.getD l (Int.toNat i) (0 : Int))) (4096 : Int)))) && (decide ((if ((okS r n q (Int.tmod (Go.IntKind.wrap Go.IntKind.i64 (List.getD l (Int.toNat i) (0 : Int))) (4096 : Int))) = Bool.true) then (stR r n q (Int.tmod (Go.IntKind.wrap Go.IntKind.i64 (List.getD l (Int.toNat i) (0 : Int))) (4096 : Int))) else (0 : Int)) < r))))
        (Bool.false = Bool.true)
        ((runs_L1_I l t (Go.IntKind.wrap Go.IntKind.i64 (i + (1 : Int))) (if ((okS r n q (Int.tmod (Go.IntKind.wrap Go.IntKind.i64 (List.getD l (Int.toNat i) (0 : Int))) (4096 : Int))) = Bool.true) then (stR r n q (Int.tmod (Go.IntKind.wrap Go.IntKind.i64 (List.getD l (Int.toNat i) (0 : Int))) (4096 : Int))) else (0 : Int)) (if ((okS r n q (Int.tmod (Go.IntKind.wrap Go.IntKind.i64 (List.getD l (Int.toNat i) (0 : Int))) (4096 : Int))) = Bool.true) then (stN n (Int.tmod (Go.IntKind.wrap Go.IntKind.i64 (List.getD l (Int.toNat i) (0 : Int))) (4096 : Int))) else (0 : Int)) (if ((okS r n q (Int.tmod (Go.IntKind.wrap Go.IntKind.i64 (List.getD l (Int.toNat i) (0 : Int))) (4096 : Int))) = Bool.true) then (stQ n q (Int.tmod (Go.IntKind.wrap Go.IntKind.i64 (List.getD l (Int.toNat i) (0 : Int))) (4096 : Int))) else (0 : Int))) ∧ (((runs_L1_m l t (Go.IntKind.wrap Go.IntKind.i64 (i + (1 : Int))) (if ((okS r n q (Int.tmod (Go.IntKind.wrap Go.IntKind.i64 (List.getD l (Int.toNat i) (0 : Int))) (4096 : Int))) = Bool.true) then (stR r n q (Int.tmod (Go.IntKind.wrap Go.IntKind.i64 (List.getD l (Int.toNat i) (0 : Int))) (4096 : Int))) else (0 : Int)) (if ((okS r n q (Int.tmod (Go.IntKind.wrap Go.IntKind.i64 (List.getD l (Int.toNat i) (0 : Int))) (4096 : Int))) = Bool.true) then (stN n (Int.tmod (Go.IntKind.wrap Go.IntKind.i64 (List.getD l (Int.toNat i) (0 : Int))) (4096 : Int))) else (0 : Int)) (if ((okS r n q (Int.tmod (Go.IntKind.wrap Go.IntKind.i64 (List.getD l (Int.toNat i) (0 : Int))) (4096 : Int))) = Bool.true) then (stQ n q (Int.tmod (Go.IntKind.wrap Go.IntKind.i64 (List.getD l (Int.toNat i) (0 : Int))) (4096 : Int))) else (0 : Int))) < (runs_L1_m l t i r n q)) ∧ (((Go.IntKind.wrap Go.IntKind.i64 (i + (1 : Int))) = (Go.IntKind.wrap Go.IntKind.i64 (i + (1 : Int)))) ∧ (((((List.length l) : Nat) : Int) = (((List.length l) : Nat) : Int)) ∧ (True ∧ (True ∧ ((Bool.false = Bool.false) ∧ ((t = t) ∧ ((((if ((okS r n q (Int.tmod (Go.IntKind.wrap Go.IntKind.i64 (List.getD l (Int.toNat i) (0 : Int))) (4096 : Int))) = Bool.true) then (stR r n q (Int.tmod (Go.IntKind.wrap Go.IntKind.i64 (List.getD l (Int.toNat i) (0 : Int))) (4096 : Int))) else (0 : Int)) = (if ((okS r n q (Int.tmod (Go.IntKind.wrap Go.IntKind.i64 (List.getD l (Int.toNat i) (0 : Int))) (4096 : Int))) = Bool.true) then (stR r n q (Int.tmod (Go.IntKind.wrap Go.IntKind.i64 (List.getD l (Int.toNat i) (0 : Int))) (4096 : Int))) else (0 : Int))) ∧ (((if ((okS r n q (Int.tmod (Go.IntKind.wrap Go.IntKind.i64 (List.getD l (Int.toNat i) (0 : Int))) (4096 : Int))) = Bool.true) then (stN n (Int.tmod (Go.IntKind.wrap Go.IntKind.i64 (List.getD l (Int.toNat i) (0 : Int))) (4096 : Int))) else (0 : Int)) = (if ((okS r n q (Int.tmod (Go.IntKind.wrap Go.IntKind.i64 (List.getD l (Int.toNat i) (0 : Int))) (4096 : Int))) = Bool.true) then (stN n (Int.tmod (Go.IntKind.wrap Go.IntKind.i64 (List.getD l (Int.toNat i) (0 : Int))) (4096 : Int))) else (0 : Int))) ∧ ((if ((okS r n q (Int.tmod (Go.IntKind.wrap Go.IntKind.i64 (List.getD l (Int.toNat i) (0 : Int))) (4096 : Int))) = Bool.true) then (stQ n q (Int.tmod (Go.IntKind.wrap Go.IntKind.i64 (List.getD l (Int.toNat i) (0 : Int))) (4096 : Int))) else (0 : Int)) = (if ((okS r n q (Int.tmod (Go.IntKind.wrap Go.IntKind.i64 (List.getD l (Int.toNat i) (0 : Int))) (4096 : Int))) = Bool.true) then (stQ n q (Int.tmod (Go.IntKind.wrap Go.IntKind.i64 (List.getD l (Int.toNat i) (0 : Int))) (4096 : Int))) else (0 : Int))))) ∧ ((l = l) ∧ True)))))))))))
      False)
    False)
  (LoopP (ex Try.prog (conOf [awake_e, kStep_e, valid_e]) (subC (bodyOf Try.f5) [1, 1, 1, 1, 1, 1, 0, 1, 0, 0])) (kont Try.prog (conOf [awake_e, kStep_e, valid_e]) (bodyOf Try.f5) [1, 1, 1, 1, 1, 1, 0, 1, 0] (retPost Try.prog Try.f5 1 (runs_res l t))) (runs_L2_S1 l t i r n q)))
set_option maxRecDepth 100000 in
theorem runs_L1_tree (l : List Int) (t : Int) (i : Int) (r : Int) (n : Int) (q : Int) : runs_L1_T l t i r n q = ex Try.prog (conOf [awake_e, kStep_e, valid_e]) (subC (bodyOf Try.f5) [1, 1, 1, 0, 1, 0, 0]) (nextE (runs_L1_N l t i r n q) (kont Try.prog (conOf [awake_e, kStep_e, valid_e]) (bodyOf Try.f5) [1, 1, 1, 0, 1, 0] (retPost Try.prog Try.f5 1 (runs_res l t)))) (runs_L1_F l t i r n q) := by kernel_rfl
theorem runs_L1_round (l : List Int) (t : Int) (i : Int) (r : Int) (n : Int) (q : Int) (p0 : wfL .u16 l = true) (p1 : wfI .u8 t = true) (hI_L1 : runs_L1_I l t i r n q) : runs_L1_T l t i r n q := by
  obtain ⟨⟨a1, a2, a4⟩, a3⟩ := hI_L1
  have b3 := knockB_iff.1 a3
  have hg := getD_u16 p0 i.toNat
  have ht := wfU8 p1
  unfold runs_L1_T
  rw [w64 (n := l.getD i.toNat 0) (by omega) (by omega), w64 (n := i + 1) (by omega) (by omega), mod4096 hg.1]
  generalize hx : l.getD i.toNat 0 % 4096 = x
  have hx1 : 0 ≤ x ∧ x ≤ 4095 := by omega
  have ho : okS r n q x = true := by simp [okS, a3, intensityB_iff.2 hx1]
  have hv := step_valid ho
  have hi : intensityB x = true := intensityB_iff.2 hx1
  simp only [ho, hv, stErr, a3, hi, if_true]
  by_cases hl : i < l.length
  · have hs1 : (!(knocks n x) && decide (r < stR r n q x)) = false := by
      unfold stR
      by_cases hk : knocks n x = true
      · simp [hk]
      · have hk : knocks n x = false := by simpa using hk
        simp [hk]; split <;> omega
    have hs2 : ((knocks n x) && decide (stR r n q x < r)) = false := by
      unfold stR
      by_cases hk : knocks n x = true
      · simp [hk]; omega
      · have hk : knocks n x = false := by simpa using hk
        simp [hk]
    simp only [hl, a1, decide_true, cnd, Bool.true_and, hs1, hs2]
    refine ⟨⟨by omega, hv⟩, ?_, ?_⟩
    · unfold runs_L1_m
      omega
    · simp
  · simp only [hl, decide_false, cnd]
    exact runs_L2_1 l t i r n q p0 p1 ⟨⟨a1, a2, a4⟩, a3⟩ ⟨⟨by omega, by omega, by omega, by omega, by omega, by omega⟩, by simp⟩
set_option maxRecDepth 100000 in
theorem runs_L1_entry1 (l : List Int) (t : Int) : (((runs_L1_I l t (0 : Int) (0 : Int) (100 : Int) (0 : Int)) ∧ (((0 : Int) = (0 : Int)) ∧ (((((List.length l) : Nat) : Int) = (((List.length l) : Nat) : Int)) ∧ (True ∧ (True ∧ ((Bool.false = Bool.false) ∧ ((t = t) ∧ ((((0 : Int) = (0 : Int)) ∧ (((100 : Int) = (100 : Int)) ∧ ((0 : Int) = (0 : Int)))) ∧ ((l = l) ∧ True)))))))))) = runs_L1_E l t (runs_L1_S1 l t) := by kernel_rfl
theorem runs_L1_1 (l : List Int) (t : Int) (p0 : wfL .u16 l = true) (p1 : wfI .u8 t = true) (h : ((runs_L1_I l t (0 : Int) (0 : Int) (100 : Int) (0 : Int)) ∧ (((0 : Int) = (0 : Int)) ∧ (((((List.length l) : Nat) : Int) = (((List.length l) : Nat) : Int)) ∧ (True ∧ (True ∧ ((Bool.false = Bool.false) ∧ ((t = t) ∧ ((((0 : Int) = (0 : Int)) ∧ (((100 : Int) = (100 : Int)) ∧ ((0 : Int) = (0 : Int)))) ∧ ((l = l) ∧ True)))))))))) : LoopP (ex Try.prog (conOf [awake_e, kStep_e, valid_e]) (subC (bodyOf Try.f5) [1, 1, 1, 0, 1, 0, 0])) (kont Try.prog (conOf [awake_e, kStep_e, valid_e]) (bodyOf Try.f5) [1, 1, 1, 0, 1, 0] (retPost Try.prog Try.f5 1 (runs_res l t))) (runs_L1_S1 l t) := by
  have hE : runs_L1_E l t (runs_L1_S1 l t) := Eq.mp (runs_L1_entry1 l t) h
  unfold runs_L1_E at hE
  obtain ⟨i, hE⟩ := getI_of hE
  obtain ⟨r, hE⟩ := getCI_of hE
  obtain ⟨n, hE⟩ := getCI_of hE
  obtain ⟨q, hE⟩ := getCI_of hE
  refine loop_of (α := (Int) × (Int) × (Int) × (Int)) (fun x => runs_L1_F l t x.1 x.2.1 x.2.2.1 x.2.2.2) (fun x => runs_L1_I l t x.1 x.2.1 x.2.2.1 x.2.2.2) (fun x => runs_L1_m l t x.1 x.2.1 x.2.2.1 x.2.2.2) (fun x => runs_L1_N l t x.1 x.2.1 x.2.2.1 x.2.2.2) (fun x => runs_L1_T l t x.1 x.2.1 x.2.2.1 x.2.2.2) (fun x s h => ?_) ⟨⟨i, r, n, q⟩, hE⟩ (fun x => runs_L1_tree l t x.1 x.2.1 x.2.2.1 x.2.2.2) (fun x hI => runs_L1_round l t x.1 x.2.1 x.2.2.1 x.2.2.2 p0 p1 hI)
  unfold runs_L1_N at h
  obtain ⟨i, h⟩ := getI_of h
  obtain ⟨r, h⟩ := getCI_of h
  obtain ⟨n, h⟩ := getCI_of h
  obtain ⟨q, h⟩ := getCI_of h
  exact ⟨⟨i, r, n, q⟩, h⟩
set_option maxRecDepth 100000 in
theorem runs_tree (l : List Int) (t : Int) : ((cnd ((!Bool.true) || (decide ((200 : Int) < (((List.length l) : Nat) : Int))))
  (Bool.true = Bool.true)
  (LoopP (ex Try.prog (conOf [awake_e, kStep_e, valid_e]) (subC (bodyOf Try.f5) [1, 1, 1, 0, 1, 0, 0])) (kont Try.prog (conOf [awake_e, kStep_e, valid_e]) (bodyOf Try.f5) [1, 1, 1, 0, 1, 0] (retPost Try.prog Try.f5 1 (runs_res l t))) (runs_L1_S1 l t)))) = EXD Try.prog (conOf [awake_e, kStep_e, valid_e]) Try.f5 [.cel (.row 0), .cel (.int .u8 t)] [.ints .u16 l] (runs_res l t) := by kernel_rfl
theorem runs_holds (l : List Int) (t : Int) (p0 : wfL .u16 l = true) (p1 : wfI .u8 t = true) : (cnd ((!Bool.true) || (decide ((200 : Int) < (((List.length l) : Nat) : Int))))
  (Bool.true = Bool.true)
  (LoopP (ex Try.prog (conOf [awake_e, kStep_e, valid_e]) (subC (bodyOf Try.f5) [1, 1, 1, 0, 1, 0, 0])) (kont Try.prog (conOf [awake_e, kStep_e, valid_e]) (bodyOf Try.f5) [1, 1, 1, 0, 1, 0] (retPost Try.prog Try.f5 1 (runs_res l t))) (runs_L1_S1 l t))) := by
  by_cases h : (200 : Int) < l.length
  · simp [h, cnd]
  · simp only [h, decide_false, cnd, Bool.not_true, Bool.or_false]
    exact runs_L1_1 l t p0 p1 ⟨⟨⟨by omega, by omega, by omega⟩, by decide⟩, by simp⟩
theorem runs_ok : SoundEnt Try.prog runs_e := by
  refine ent_of_ex (Γ := (conOf [awake_e, kStep_e, valid_e])) (conOf_sound (scons awake_ok (scons kStep_ok (scons valid_ok snil)))) (by kernel_rfl) Try.func5 (by kernel_rfl) (by kernel_rfl) (fun args rows res h ho => ?_)
  change runs_go args rows = some res at h
  unfold runs_go at h
  split at h
  · simp only [Option.some.injEq] at h
    subst h
    obtain ⟨p0, p1, _⟩ := ho
    exact EX.of (runs_tree _ _) (runs_holds _ _ p0 p1)
  · cases h
end Go.Proofs.Ytoklfnonbfcdlaa

