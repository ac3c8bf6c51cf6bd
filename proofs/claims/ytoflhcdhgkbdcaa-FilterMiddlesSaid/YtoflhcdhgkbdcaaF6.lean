/- Filters: the law of windows. -/
import Derived.Test.YtoflhcdhgkbdcaaF5
namespace Go.Proofs.Ytoflhcdhgkbdcaa
set_option linter.unusedVariables false
set_option linter.unusedSimpArgs false
open Go.RowKit

def rvwin_res (n : Int) (l : List Int) : CRes := ⟨[], .one (.cel (.bool (decide (1 ≤ n) && decide (n ≤ 15) && decide ((l.length : Int) ≤ n) && l.all isV))), []⟩
def rvwin_go : List TV → List RowA → Option CRes := fun args rows =>
  match args, rows with
  | [.agg [.int .i64 n, .row 0]], [.ints .i64 l] => some (rvwin_res n l)
  | _, _ => none
def rvwin_e : Ent := ⟨32, [.ints .i64 []], rvwin_go⟩
def rvwin_L1_F (n : Int) (l : List Int) (i : Int) : St := ⟨34, [], [(3, (.one (.cel (.int .i64 i)))), (2, (.one (.cel (.bool Bool.false)))), (1, (.one (.cel (.ptr 0 0))))], [[(.int .i64 n), (.row 0)]], [⟨(.ints .i64 l), none⟩]⟩
def rvwin_L1_I (n : Int) (l : List Int) (i : Int) : Prop := (0 ≤ i ∧ i ≤ l.length ∧ 1 ≤ n ∧ n ≤ 15 ∧ (l.length : Int) ≤ n) ∧ ((l.take i.toNat).all isV = true)
def rvwin_L1_m (n : Int) (l : List Int) (i : Int) : Nat := (l.length - i).toNat
def rvwin_L1_N (n : Int) (l : List Int) (i' : Int) (st_ : St) : Prop := getI st_ 3 fun i => rvwin_L1_I n l i ∧ rvwin_L1_m n l i < rvwin_L1_m n l i' ∧ SubA st_ (rvwin_L1_F n l i)
def rvwin_L1_E (n : Int) (l : List Int) (st_ : St) : Prop := getI st_ 3 fun i => rvwin_L1_I n l i ∧ SubA st_ (rvwin_L1_F n l i)
def rvwin_L1_S1 (n : Int) (l : List Int) : St := ⟨34, [12, 7], [(3, (.one (.cel (.int .i64 (0 : Int))))), (19, (.one (.cel (.bool (((decide (n < (1 : Int))) || (decide ((15 : Int) < n))) || (decide (n < (((List.length l) : Nat) : Int)))))))), (18, (.spec 12 Bool.false (.cel (.bool (decide (n < (((List.length l) : Nat) : Int))))))), (17, (.spec 12 Bool.false (.cel (.int .i64 n)))), (16, (.spec 12 Bool.false (.cel (.ptr 0 0)))), (15, (.spec 12 Bool.false (.cel (.int .i64 (((List.length l) : Nat) : Int))))), (14, (.spec 12 Bool.false (.cel (.row 0)))), (13, (.spec 12 Bool.false (.cel (.ptr 0 1)))), (12, (.one (.cel (.bool ((decide (n < (1 : Int))) || (decide ((15 : Int) < n))))))), (11, (.one (.cel (.bool ((decide (n < (1 : Int))) || (decide ((15 : Int) < n))))))), (10, (.spec 7 Bool.false (.cel (.bool (decide ((15 : Int) < n)))))), (9, (.spec 7 Bool.false (.cel (.int .i64 n)))), (8, (.spec 7 Bool.false (.cel (.ptr 0 0)))), (7, (.one (.cel (.bool (decide (n < (1 : Int))))))), (6, (.one (.cel (.bool (decide (n < (1 : Int))))))), (5, (.one (.cel (.int .i64 n)))), (4, (.one (.cel (.ptr 0 0)))), (2, (.one (.cel (.bool Bool.false)))), (1, (.one (.cel (.ptr 0 0)))), (0, (.one (.agg [(.int .i64 n), (.row 0)])))], [[(.int .i64 n), (.row 0)]], [⟨(.ints .i64 l), none⟩]⟩
def rvwin_L1_T (n : Int) (l : List Int) (i : Int) : Prop := (cnd (decide (i < (((List.length l) : Nat) : Int)))
  (cnd (decide ((0 : Int) ≤ i))
    (cnd (decide (i < (((List.length l) : Nat) : Int)))
      (cnd (!(isV (List.getD l (Int.toNat i) (0 : Int))))
        (Bool.false = ((((decide ((1 : Int) ≤ n)) && (decide (n ≤ (15 : Int)))) && (decide ((((List.length l) : Nat) : Int) ≤ n))) && (List.all l isV)))
        ((rvwin_L1_I n l (Go.IntKind.wrap Go.IntKind.i64 (i + (1 : Int)))) ∧ (((rvwin_L1_m n l (Go.IntKind.wrap Go.IntKind.i64 (i + (1 : Int)))) < (rvwin_L1_m n l i)) ∧ (((Go.IntKind.wrap Go.IntKind.i64 (i + (1 : Int))) = (Go.IntKind.wrap Go.IntKind.i64 (i + (1 : Int)))) ∧ ((Bool.false = Bool.false) ∧ (True ∧ (((n = n) ∧ True) ∧ ((l = l) ∧ True))))))))
      False)
    False)
  (Bool.true = ((((decide ((1 : Int) ≤ n)) && (decide (n ≤ (15 : Int)))) && (decide ((((List.length l) : Nat) : Int) ≤ n))) && (List.all l isV))))
set_option maxRecDepth 100000 in
theorem rvwin_L1_tree (n : Int) (l : List Int) (i : Int) : rvwin_L1_T n l i = ex Try.prog (conOf [rvalue_e]) (subC (bodyOf Try.f32) [1, 1, 0, 1, 0, 0]) (nextE (rvwin_L1_N n l i) (kont Try.prog (conOf [rvalue_e]) (bodyOf Try.f32) [1, 1, 0, 1, 0] (retPost Try.prog Try.f32 1 (rvwin_res n l)))) (rvwin_L1_F n l i) := by kernel_rfl
set_option maxRecDepth 100000 in
theorem rvwin_L1_round (n : Int) (l : List Int) (i : Int)  (hI_L1 : rvwin_L1_I n l i) : rvwin_L1_T n l i := by
  obtain ⟨⟨a1, a2, a3, a4, a5⟩, a6⟩ := hI_L1
  unfold rvwin_L1_T
  rw [decide_eq_true a3, decide_eq_true a4, decide_eq_true a5, w64 (n := i + 1) (by omega) (by omega)]
  by_cases hl : i < l.length
  · have j1 : decide (0 ≤ i) = true := by simpa using a1
    simp only [hl, decide_true, j1, cnd]
    cases hx : isV (l.getD i.toNat 0) with
    | false =>
      have := all_take_not (l := l) (i := i.toNat) (by omega) hx
      have e : l.all isV = false := by simpa using this
      simp [e]
    | true =>
      refine ⟨⟨⟨by omega, by omega, a3, a4, a5⟩, all_take a1 hl a6 hx⟩, ?_, by simp⟩
      unfold rvwin_L1_m
      omega
  · rw [List.take_of_length_le (by omega)] at a6
    simp only [hl, decide_false, cnd, a6, Bool.and_true]
set_option maxRecDepth 100000 in
theorem rvwin_L1_entry1 (n : Int) (l : List Int) : (((rvwin_L1_I n l (0 : Int)) ∧ (((0 : Int) = (0 : Int)) ∧ ((Bool.false = Bool.false) ∧ (True ∧ (((n = n) ∧ True) ∧ ((l = l) ∧ True))))))) = rvwin_L1_E n l (rvwin_L1_S1 n l) := by kernel_rfl
theorem rvwin_L1_1 (n : Int) (l : List Int)  (h : ((rvwin_L1_I n l (0 : Int)) ∧ (((0 : Int) = (0 : Int)) ∧ ((Bool.false = Bool.false) ∧ (True ∧ (((n = n) ∧ True) ∧ ((l = l) ∧ True))))))) : LoopP (ex Try.prog (conOf [rvalue_e]) (subC (bodyOf Try.f32) [1, 1, 0, 1, 0, 0])) (kont Try.prog (conOf [rvalue_e]) (bodyOf Try.f32) [1, 1, 0, 1, 0] (retPost Try.prog Try.f32 1 (rvwin_res n l))) (rvwin_L1_S1 n l) := by
  have hE : rvwin_L1_E n l (rvwin_L1_S1 n l) := Eq.mp (rvwin_L1_entry1 n l) h
  unfold rvwin_L1_E at hE
  obtain ⟨i, hE⟩ := getI_of hE
  refine loop_of (α := (Int)) (fun xx_ => rvwin_L1_F n l xx_) (fun xx_ => rvwin_L1_I n l xx_) (fun xx_ => rvwin_L1_m n l xx_) (fun xx_ => rvwin_L1_N n l xx_) (fun xx_ => rvwin_L1_T n l xx_) (fun xx_ s_ h => ?_) ⟨i, hE⟩ (fun xx_ => rvwin_L1_tree n l xx_) (fun xx_ hI => rvwin_L1_round n l xx_  hI)
  unfold rvwin_L1_N at h
  obtain ⟨i, h⟩ := getI_of h
  exact ⟨i, h⟩
set_option maxRecDepth 100000 in
theorem rvwin_tree (n : Int) (l : List Int) : ((cnd (((decide (n < (1 : Int))) || (decide ((15 : Int) < n))) || (decide (n < (((List.length l) : Nat) : Int))))
  (Bool.false = ((((decide ((1 : Int) ≤ n)) && (decide (n ≤ (15 : Int)))) && (decide ((((List.length l) : Nat) : Int) ≤ n))) && (List.all l isV)))
  (LoopP (ex Try.prog (conOf [rvalue_e]) (subC (bodyOf Try.f32) [1, 1, 0, 1, 0, 0])) (kont Try.prog (conOf [rvalue_e]) (bodyOf Try.f32) [1, 1, 0, 1, 0] (retPost Try.prog Try.f32 1 (rvwin_res n l))) (rvwin_L1_S1 n l)))) = EXD Try.prog (conOf [rvalue_e]) Try.f32 [.agg [.int .i64 n, .row 0]] [.ints .i64 l] (rvwin_res n l) := by kernel_rfl
theorem rvwin_holds (n : Int) (l : List Int)  : (cnd (((decide (n < (1 : Int))) || (decide ((15 : Int) < n))) || (decide (n < (((List.length l) : Nat) : Int))))
  (Bool.false = ((((decide ((1 : Int) ≤ n)) && (decide (n ≤ (15 : Int)))) && (decide ((((List.length l) : Nat) : Int) ≤ n))) && (List.all l isV)))
  (LoopP (ex Try.prog (conOf [rvalue_e]) (subC (bodyOf Try.f32) [1, 1, 0, 1, 0, 0])) (kont Try.prog (conOf [rvalue_e]) (bodyOf Try.f32) [1, 1, 0, 1, 0] (retPost Try.prog Try.f32 1 (rvwin_res n l))) (rvwin_L1_S1 n l))) := by
  by_cases hn : 1 ≤ n ∧ n ≤ 15 ∧ (l.length : Int) ≤ n
  · have j : ((decide (n < 1) || decide (15 < n)) || decide (n < (l.length : Int))) = false := by simp; omega
    simp only [j, cnd]
    exact rvwin_L1_1 n l ⟨⟨⟨by omega, by omega, hn.1, hn.2.1, hn.2.2⟩, by simp⟩, by simp⟩
  · have j : ((decide (n < 1) || decide (15 < n)) || decide (n < (l.length : Int))) = true := by simp; omega
    have e : (((decide (1 ≤ n) && decide (n ≤ 15)) && decide ((l.length : Int) ≤ n)) && l.all isV) = false := by
      rw [Bool.eq_false_iff]
      intro h
      simp only [Bool.and_eq_true, decide_eq_true_eq] at h
      exact hn ⟨h.1.1.1, h.1.1.2, h.1.2⟩
    rw [e]
    simp only [j, cnd]
set_option maxHeartbeats 2000000 in
theorem rvwin_ok : SoundEnt Try.prog rvwin_e := by
  refine ent_of_ex (Γ := (conOf [rvalue_e])) (conOf_sound (scons rvalue_ok snil)) (by kernel_rfl) Try.func32 (by kernel_rfl) (by kernel_rfl) (fun args rows res h ho => ?_)
  change rvwin_go args rows = some res at h
  unfold rvwin_go at h
  split at h
  · simp only [Option.some.injEq] at h
    subst h
    rename_i q0_ q1_
    skip
    exact EX.of (rvwin_tree q0_ q1_) (rvwin_holds q0_ q1_)
  · cases h
def radded_res (n : Int) (l : List Int) (x : Int) : CRes := ⟨[decide (addE n l x = 0)], .one (.agg [.int .i64 (n), .row 1]), [.ints .i64 (addL n l x)]⟩
def radded_go : List TV → List RowA → Option CRes := fun args rows =>
  match args, rows with
  | [.agg [.int .i64 n, .row 0], .cel (.int .i64 x)], [.ints .i64 l] => some (radded_res n l x)
  | _, _ => none
def radded_e : Ent := ⟨34, [.ints .i64 []], radded_go⟩
set_option maxRecDepth 100000 in
theorem radded_tree (n : Int) (l : List Int) (x : Int) : ((cnd (decide ((List.length (([] : List Int) ++ l)) ≤ 4294967296))
  (cnd (decide ((List.length ((([] : List Int) ++ l) ++ [x])) ≤ 4294967296))
    (cnd (decide (n < (((List.length ((([] : List Int) ++ l) ++ [x])) : Nat) : Int)))
      (cnd (decide ((1 : Int) ≤ (((List.length ((([] : List Int) ++ l) ++ [x])) : Nat) : Int)))
        (cnd (decide ((((List.length ((([] : List Int) ++ l) ++ [x])) : Nat) : Int) ≤ (((List.length ((([] : List Int) ++ l) ++ [x])) : Nat) : Int)))
          (((n = n) ∧ True) ∧ (((List.drop (Int.toNat (1 : Int)) (List.take (Int.toNat (((List.length ((([] : List Int) ++ l) ++ [x])) : Nat) : Int)) ((([] : List Int) ++ l) ++ [x]))) = (addL n l x)) ∧ True))
          False)
        False)
      (((n = n) ∧ True) ∧ ((((([] : List Int) ++ l) ++ [x]) = (addL n l x)) ∧ True)))
    False)
  False)) = EXD Try.prog (conOf []) Try.f34 [.agg [.int .i64 n, .row 0], .cel (.int .i64 x)] [.ints .i64 l] (radded_res n l x) := by kernel_rfl
theorem radded_holds (n : Int) (l : List Int) (x : Int) (p0 : decide (addE n l x = 0) = true) : (cnd (decide ((List.length (([] : List Int) ++ l)) ≤ 4294967296))
  (cnd (decide ((List.length ((([] : List Int) ++ l) ++ [x])) ≤ 4294967296))
    (cnd (decide (n < (((List.length ((([] : List Int) ++ l) ++ [x])) : Nat) : Int)))
      (cnd (decide ((1 : Int) ≤ (((List.length ((([] : List Int) ++ l) ++ [x])) : Nat) : Int)))
        (cnd (decide ((((List.length ((([] : List Int) ++ l) ++ [x])) : Nat) : Int) ≤ (((List.length ((([] : List Int) ++ l) ++ [x])) : Nat) : Int)))
          (((n = n) ∧ True) ∧ (((List.drop (Int.toNat (1 : Int)) (List.take (Int.toNat (((List.length ((([] : List Int) ++ l) ++ [x])) : Nat) : Int)) ((([] : List Int) ++ l) ++ [x]))) = (addL n l x)) ∧ True))
          False)
        False)
      (((n = n) ∧ True) ∧ ((((([] : List Int) ++ l) ++ [x]) = (addL n l x)) ∧ True)))
    False)
  False) := by
  simp only [decide_eq_true_eq] at p0
  obtain ⟨⟨h1, h2, h3, h4⟩, h5⟩ := addE_zero.1 p0
  have j1 : decide ((([] : List Int) ++ l).length ≤ 4294967296) = true := by simp; omega
  have j2 : decide (((([] : List Int) ++ l) ++ [x]).length ≤ 4294967296) = true := by simp; omega
  have j3 : decide ((1 : Int) ≤ ((((([] : List Int) ++ l) ++ [x]).length : Nat) : Int)) = true := by rw [decide_eq_true_eq]; simp; omega
  simp only [j1, j2, j3, cnd, Int.le_refl, decide_true, Int.toNat_natCast, List.take_length]
  by_cases hn : n ≤ l.length
  · have j6 : decide (n < ((((([] : List Int) ++ l) ++ [x]).length : Nat) : Int)) = true := by rw [decide_eq_true_eq]; simp; omega
    simp only [j6]
    simp [addL, p0, hn]
  · have j6 : decide (n < ((((([] : List Int) ++ l) ++ [x]).length : Nat) : Int)) = false := by rw [decide_eq_false_iff_not]; simp; omega
    simp only [j6]
    simp [addL, p0, hn]
set_option maxHeartbeats 2000000 in
theorem radded_ok : SoundEnt Try.prog radded_e := by
  refine ent_of_ex (Γ := (conOf [])) (conOf_sound snil) (by kernel_rfl) Try.func34 (by kernel_rfl) (by kernel_rfl) (fun args rows res h ho => ?_)
  change radded_go args rows = some res at h
  unfold radded_go at h
  split at h
  · simp only [Option.some.injEq] at h
    subst h
    rename_i q0_ q2_ q1_
    obtain ⟨p0, _⟩ := ho
    exact EX.of (radded_tree q0_ q1_ q2_) (radded_holds q0_ q1_ q2_ p0)
  · cases h
def raverage_res (l : List Int) : CRes := ⟨[decide (1 ≤ l.length), decide (l.length ≤ 16), l.all isV], .one (.cel (.int .i64 (lsum l / l.length))), []⟩
def raverage_go : List TV → List RowA → Option CRes := fun args rows =>
  match args, rows with
  | [.cel (.row 0)], [.ints .i64 l] => some (raverage_res l)
  | _, _ => none
def raverage_e : Ent := ⟨35, [.ints .i64 []], raverage_go⟩
def raverage_L1_F (l : List Int) (i : Int) (q : Int) : St := ⟨21, [], [(4, (.one (.cel (.int .i64 i)))), (3, (.one (.cel (.int .i64 q)))), (2, (.one (.cel (.int .i64 (0 : Int))))), (0, (.one (.cel (.row 0))))], [], [⟨(.ints .i64 l), none⟩]⟩
def raverage_L1_I (l : List Int) (i : Int) (q : Int) : Prop := (0 ≤ i ∧ i ≤ l.length) ∧ (q = lsum (l.take i.toNat))
def raverage_L1_m (l : List Int) (i : Int) (q : Int) : Nat := (l.length - i).toNat
def raverage_L1_N (l : List Int) (i' : Int) (q' : Int) (st_ : St) : Prop := getI st_ 4 fun i => getI st_ 3 fun q => raverage_L1_I l i q ∧ raverage_L1_m l i q < raverage_L1_m l i' q' ∧ SubA st_ (raverage_L1_F l i q)
def raverage_L1_E (l : List Int) (st_ : St) : Prop := getI st_ 4 fun i => getI st_ 3 fun q => raverage_L1_I l i q ∧ SubA st_ (raverage_L1_F l i q)
def raverage_L1_S1 (l : List Int) : St := ⟨21, [], [(4, (.one (.cel (.int .i64 (0 : Int))))), (3, (.one (.cel (.int .i64 (0 : Int))))), (2, (.one (.cel (.int .i64 (0 : Int))))), (0, (.one (.cel (.row 0))))], [], [⟨(.ints .i64 l), none⟩]⟩
def raverage_L1_T (l : List Int) (i : Int) (q : Int) : Prop := (cnd (decide (i < (((List.length l) : Nat) : Int)))
  (cnd (decide ((0 : Int) ≤ i))
    (cnd (decide (i < (((List.length l) : Nat) : Int)))
      ((raverage_L1_I l (Go.IntKind.wrap Go.IntKind.i64 (i + (1 : Int))) (Go.IntKind.wrap Go.IntKind.i64 (q + (List.getD l (Int.toNat i) (0 : Int))))) ∧ (((raverage_L1_m l (Go.IntKind.wrap Go.IntKind.i64 (i + (1 : Int))) (Go.IntKind.wrap Go.IntKind.i64 (q + (List.getD l (Int.toNat i) (0 : Int))))) < (raverage_L1_m l i q)) ∧ (((Go.IntKind.wrap Go.IntKind.i64 (i + (1 : Int))) = (Go.IntKind.wrap Go.IntKind.i64 (i + (1 : Int)))) ∧ (((Go.IntKind.wrap Go.IntKind.i64 (q + (List.getD l (Int.toNat i) (0 : Int)))) = (Go.IntKind.wrap Go.IntKind.i64 (q + (List.getD l (Int.toNat i) (0 : Int))))) ∧ (((0 : Int) = (0 : Int)) ∧ (True ∧ ((l = l) ∧ True)))))))
      False)
    False)
  (cnd (inBig q)
    (cnd (decide ((1 : Int) ≤ (((List.length l) : Nat) : Int)))
      (cnd (inBig (((List.length l) : Nat) : Int))
        ((q / (((List.length l) : Nat) : Int)) = ((lsum l) / (((List.length l) : Nat) : Int)))
        False)
      False)
    False))
set_option maxRecDepth 100000 in
theorem raverage_L1_tree (l : List Int) (i : Int) (q : Int) : raverage_L1_T l i q = ex Try.prog (conOf [rfloor_e]) (subC (bodyOf Try.f35) [1, 1, 0, 1, 0, 0]) (nextE (raverage_L1_N l i q) (kont Try.prog (conOf [rfloor_e]) (bodyOf Try.f35) [1, 1, 0, 1, 0] (retPost Try.prog Try.f35 1 (raverage_res l)))) (raverage_L1_F l i q) := by kernel_rfl
set_option maxRecDepth 100000 in
theorem raverage_L1_round (l : List Int) (i : Int) (q : Int) (p0 : decide (1 ≤ l.length) = true) (p1 : decide (l.length ≤ 16) = true) (p2 : l.all isV = true) (hI_L1 : raverage_L1_I l i q) : raverage_L1_T l i q := by
  obtain ⟨⟨a1, a2⟩, a4⟩ := hI_L1
  simp only [decide_eq_true_eq] at p0 p1
  have b3 := p2
  have ht : (l.take i.toNat).all isV = true := by
    rw [List.all_eq_true] at b3 ⊢
    exact fun y hy => b3 y (List.mem_of_mem_take hy)
  have hs := lsum_bd ht
  rw [← a4, List.length_take] at hs
  unfold raverage_L1_T
  by_cases hl : i < l.length
  · have hv : isV (l.getD i.toNat 0) = true := by
      rw [List.all_eq_true] at b3
      refine b3 _ ?_
      rw [List.getD_eq_getElem?_getD, List.getElem?_eq_getElem (by omega)]
      exact List.getElem_mem (by omega)
    have hv2 := isV_iff.1 hv
    have j1 : decide (0 ≤ i) = true := by simpa using a1
    rw [w64 (n := i + 1) (by omega) (by omega), w64 (n := q + l.getD i.toNat 0) (by omega) (by omega)]
    simp only [hl, decide_true, j1, cnd]
    refine ⟨⟨⟨by omega, by omega⟩, ?_⟩, ?_, by simp⟩
    · rw [show (i + 1).toNat = i.toNat + 1 by omega, take_succ_getD _ _ (by omega), lsum_append, ← a4]
      simp [lsum]
    · unfold raverage_L1_m
      omega
  · have he : i = l.length := by omega
    have e : q = lsum l := by rw [a4, he]; simp
    have j1 : inBig q = true := inBig_iff.2 (by omega)
    have j2 : decide ((1 : Int) ≤ (l.length : Int)) = true := by rw [decide_eq_true_eq]; omega
    have j3 : inBig (l.length : Int) = true := inBig_iff.2 (by omega)
    simp only [hl, decide_false, j1, j2, j3, cnd]
    rw [e]
set_option maxRecDepth 100000 in
theorem raverage_L1_entry1 (l : List Int) : (((raverage_L1_I l (0 : Int) (0 : Int)) ∧ (((0 : Int) = (0 : Int)) ∧ (((0 : Int) = (0 : Int)) ∧ (((0 : Int) = (0 : Int)) ∧ (True ∧ ((l = l) ∧ True))))))) = raverage_L1_E l (raverage_L1_S1 l) := by kernel_rfl
theorem raverage_L1_1 (l : List Int) (p0 : decide (1 ≤ l.length) = true) (p1 : decide (l.length ≤ 16) = true) (p2 : l.all isV = true) (h : ((raverage_L1_I l (0 : Int) (0 : Int)) ∧ (((0 : Int) = (0 : Int)) ∧ (((0 : Int) = (0 : Int)) ∧ (((0 : Int) = (0 : Int)) ∧ (True ∧ ((l = l) ∧ True))))))) : LoopP (ex Try.prog (conOf [rfloor_e]) (subC (bodyOf Try.f35) [1, 1, 0, 1, 0, 0])) (kont Try.prog (conOf [rfloor_e]) (bodyOf Try.f35) [1, 1, 0, 1, 0] (retPost Try.prog Try.f35 1 (raverage_res l))) (raverage_L1_S1 l) := by
  have hE : raverage_L1_E l (raverage_L1_S1 l) := Eq.mp (raverage_L1_entry1 l) h
  unfold raverage_L1_E at hE
  obtain ⟨i, hE⟩ := getI_of hE
  obtain ⟨q, hE⟩ := getI_of hE
  refine loop_of (α := (Int) × (Int)) (fun xx_ => raverage_L1_F l xx_.1 xx_.2) (fun xx_ => raverage_L1_I l xx_.1 xx_.2) (fun xx_ => raverage_L1_m l xx_.1 xx_.2) (fun xx_ => raverage_L1_N l xx_.1 xx_.2) (fun xx_ => raverage_L1_T l xx_.1 xx_.2) (fun xx_ s_ h => ?_) ⟨⟨i, q⟩, hE⟩ (fun xx_ => raverage_L1_tree l xx_.1 xx_.2) (fun xx_ hI => raverage_L1_round l xx_.1 xx_.2 p0 p1 p2 hI)
  unfold raverage_L1_N at h
  obtain ⟨i, h⟩ := getI_of h
  obtain ⟨q, h⟩ := getI_of h
  exact ⟨⟨i, q⟩, h⟩
set_option maxRecDepth 100000 in
theorem raverage_tree (l : List Int) : ((LoopP (ex Try.prog (conOf [rfloor_e]) (subC (bodyOf Try.f35) [1, 1, 0, 1, 0, 0])) (kont Try.prog (conOf [rfloor_e]) (bodyOf Try.f35) [1, 1, 0, 1, 0] (retPost Try.prog Try.f35 1 (raverage_res l))) (raverage_L1_S1 l))) = EXD Try.prog (conOf [rfloor_e]) Try.f35 [.cel (.row 0)] [.ints .i64 l] (raverage_res l) := by kernel_rfl
theorem raverage_holds (l : List Int) (p0 : decide (1 ≤ l.length) = true) (p1 : decide (l.length ≤ 16) = true) (p2 : l.all isV = true) : (LoopP (ex Try.prog (conOf [rfloor_e]) (subC (bodyOf Try.f35) [1, 1, 0, 1, 0, 0])) (kont Try.prog (conOf [rfloor_e]) (bodyOf Try.f35) [1, 1, 0, 1, 0] (retPost Try.prog Try.f35 1 (raverage_res l))) (raverage_L1_S1 l)) := by
  exact raverage_L1_1 l p0 p1 p2 ⟨⟨⟨by omega, by omega⟩, by simp [lsum]⟩, by simp⟩
set_option maxHeartbeats 2000000 in
theorem raverage_ok : SoundEnt Try.prog raverage_e := by
  refine ent_of_ex (Γ := (conOf [rfloor_e])) (conOf_sound (scons rfloor_ok snil)) (by kernel_rfl) Try.func35 (by kernel_rfl) (by kernel_rfl) (fun args rows res h ho => ?_)
  change raverage_go args rows = some res at h
  unfold raverage_go at h
  split at h
  · simp only [Option.some.injEq] at h
    subst h
    rename_i q0_
    obtain ⟨p0, p1, p2, _⟩ := ho
    exact EX.of (raverage_tree q0_) (raverage_holds q0_ p0 p1 p2)
  · cases h
def rmedian_res (l : List Int) : CRes := ⟨[decide (1 ≤ l.length), decide (l.length ≤ 16)], .one (.cel (.int .i64 (med l))), []⟩
def rmedian_go : List TV → List RowA → Option CRes := fun args rows =>
  match args, rows with
  | [.cel (.row 0)], [.ints .i64 l] => some (rmedian_res l)
  | _, _ => none
def rmedian_e : Ent := ⟨36, [.ints .i64 []], rmedian_go⟩
def rmedian_L1_F (l : List Int) (i : Int) : St := ⟨60, [], [(3, (.one (.cel (.int .i64 i)))), (2, (.one (.cel (.int .i64 (0 : Int))))), (0, (.one (.cel (.row 0))))], [], [⟨(.ints .i64 l), none⟩]⟩
def rmedian_L1_I (l : List Int) (i : Int) : Prop := (0 ≤ i ∧ i ≤ l.length) ∧ (∀ j : Nat, (j : Int) < i → ¬ isMed l (l.getD j 0))
def rmedian_L1_m (l : List Int) (i : Int) : Nat := (l.length - i).toNat
def rmedian_L1_N (l : List Int) (i' : Int) (st_ : St) : Prop := getI st_ 3 fun i => rmedian_L1_I l i ∧ rmedian_L1_m l i < rmedian_L1_m l i' ∧ SubA st_ (rmedian_L1_F l i)
def rmedian_L1_E (l : List Int) (st_ : St) : Prop := getI st_ 3 fun i => rmedian_L1_I l i ∧ SubA st_ (rmedian_L1_F l i)
def rmedian_L1_S1 (l : List Int) : St := ⟨60, [], [(3, (.one (.cel (.int .i64 (0 : Int))))), (2, (.one (.cel (.int .i64 (0 : Int))))), (0, (.one (.cel (.row 0))))], [], [⟨(.ints .i64 l), none⟩]⟩
def rmedian_L2_F (l : List Int) (i : Int) (k : Int) (ls : Int) (sm : Int) : St := ⟨60, [], [(6, (.one (.cel (.int .i64 k)))), (5, (.one (.cel (.int .i64 sm)))), (4, (.one (.cel (.int .i64 ls)))), (11, (.one (.cel (.bool (decide (i < (((List.length l) : Nat) : Int))))))), (10, (.one (.cel (.int .i64 (((List.length l) : Nat) : Int))))), (9, (.one (.cel (.row 0)))), (8, (.one (.cel (.int .i64 i)))), (3, (.one (.cel (.int .i64 i)))), (2, (.one (.cel (.int .i64 (0 : Int))))), (0, (.one (.cel (.row 0))))], [], [⟨(.ints .i64 l), none⟩]⟩
def rmedian_L2_I (l : List Int) (i : Int) (k : Int) (ls : Int) (sm : Int) : Prop := (0 ≤ k ∧ k ≤ l.length ∧ i < l.length) ∧ (ls = (l.take k.toNat).countP (fun z => decide (z < l.getD i.toNat 0)) ∧ sm = (l.take k.toNat).countP (fun z => decide (z = l.getD i.toNat 0)))
def rmedian_L2_m (l : List Int) (i : Int) (k : Int) (ls : Int) (sm : Int) : Nat := (l.length - k).toNat
def rmedian_L2_N (l : List Int) (i : Int) (k' : Int) (ls' : Int) (sm' : Int) (st_ : St) : Prop := getI st_ 6 fun k => getI st_ 4 fun ls => getI st_ 5 fun sm => rmedian_L2_I l i k ls sm ∧ rmedian_L2_m l i k ls sm < rmedian_L2_m l i k' ls' sm' ∧ SubA st_ (rmedian_L2_F l i k ls sm)
def rmedian_L2_E (l : List Int) (i : Int) (st_ : St) : Prop := getI st_ 6 fun k => getI st_ 4 fun ls => getI st_ 5 fun sm => rmedian_L2_I l i k ls sm ∧ SubA st_ (rmedian_L2_F l i k ls sm)
def rmedian_L2_S1 (l : List Int) (i : Int) : St := ⟨60, [], [(6, (.one (.cel (.int .i64 (0 : Int))))), (5, (.one (.cel (.int .i64 (0 : Int))))), (4, (.one (.cel (.int .i64 (0 : Int))))), (11, (.one (.cel (.bool (decide (i < (((List.length l) : Nat) : Int))))))), (10, (.one (.cel (.int .i64 (((List.length l) : Nat) : Int))))), (9, (.one (.cel (.row 0)))), (8, (.one (.cel (.int .i64 i)))), (3, (.one (.cel (.int .i64 i)))), (2, (.one (.cel (.int .i64 (0 : Int))))), (0, (.one (.cel (.row 0))))], [], [⟨(.ints .i64 l), none⟩]⟩
def rmedian_L2_T (l : List Int) (i : Int) (k : Int) (ls : Int) (sm : Int) : Prop := (cnd (decide (k < (((List.length l) : Nat) : Int)))
  (cnd (decide ((0 : Int) ≤ k))
    (cnd (decide (k < (((List.length l) : Nat) : Int)))
      (cnd (decide ((0 : Int) ≤ i))
        (cnd (decide (i < (((List.length l) : Nat) : Int)))
          (cnd (decide ((List.getD l (Int.toNat k) (0 : Int)) < (List.getD l (Int.toNat i) (0 : Int))))
            (cnd (decide ((0 : Int) ≤ k))
              (cnd (decide (k < (((List.length l) : Nat) : Int)))
                (cnd (decide ((0 : Int) ≤ i))
                  (cnd (decide (i < (((List.length l) : Nat) : Int)))
                    (cnd (decide ((List.getD l (Int.toNat k) (0 : Int)) = (List.getD l (Int.toNat i) (0 : Int))))
                      ((rmedian_L2_I l i (Go.IntKind.wrap Go.IntKind.i64 (k + (1 : Int))) (Go.IntKind.wrap Go.IntKind.i64 (ls + (1 : Int))) (Go.IntKind.wrap Go.IntKind.i64 (sm + (1 : Int)))) ∧ (((rmedian_L2_m l i (Go.IntKind.wrap Go.IntKind.i64 (k + (1 : Int))) (Go.IntKind.wrap Go.IntKind.i64 (ls + (1 : Int))) (Go.IntKind.wrap Go.IntKind.i64 (sm + (1 : Int)))) < (rmedian_L2_m l i k ls sm)) ∧ (((Go.IntKind.wrap Go.IntKind.i64 (k + (1 : Int))) = (Go.IntKind.wrap Go.IntKind.i64 (k + (1 : Int)))) ∧ (((Go.IntKind.wrap Go.IntKind.i64 (sm + (1 : Int))) = (Go.IntKind.wrap Go.IntKind.i64 (sm + (1 : Int)))) ∧ (((Go.IntKind.wrap Go.IntKind.i64 (ls + (1 : Int))) = (Go.IntKind.wrap Go.IntKind.i64 (ls + (1 : Int)))) ∧ (((decide (i < (((List.length l) : Nat) : Int))) = (decide (i < (((List.length l) : Nat) : Int)))) ∧ (((((List.length l) : Nat) : Int) = (((List.length l) : Nat) : Int)) ∧ (True ∧ ((i = i) ∧ ((i = i) ∧ (((0 : Int) = (0 : Int)) ∧ (True ∧ ((l = l) ∧ True)))))))))))))
                      ((rmedian_L2_I l i (Go.IntKind.wrap Go.IntKind.i64 (k + (1 : Int))) (Go.IntKind.wrap Go.IntKind.i64 (ls + (1 : Int))) sm) ∧ (((rmedian_L2_m l i (Go.IntKind.wrap Go.IntKind.i64 (k + (1 : Int))) (Go.IntKind.wrap Go.IntKind.i64 (ls + (1 : Int))) sm) < (rmedian_L2_m l i k ls sm)) ∧ (((Go.IntKind.wrap Go.IntKind.i64 (k + (1 : Int))) = (Go.IntKind.wrap Go.IntKind.i64 (k + (1 : Int)))) ∧ ((sm = sm) ∧ (((Go.IntKind.wrap Go.IntKind.i64 (ls + (1 : Int))) = (Go.IntKind.wrap Go.IntKind.i64 (ls + (1 : Int)))) ∧ (((decide (i < (((List.length l) : Nat) : Int))) = (decide (i < (((List.length l) : Nat) : Int)))) ∧ (((((List.length l) : Nat) : Int) = (((List.length l) : Nat) : Int)) ∧ (True ∧ ((i = i) ∧ ((i = i) ∧ (((0 : Int) = (0 : Int)) ∧ (True ∧ ((l = l) ∧ True))))))))))))))
                    False)
                  False)
                False)
              False)
            (cnd (decide ((0 : Int) ≤ k))
              (cnd (decide (k < (((List.length l) : Nat) : Int)))
                (cnd (decide ((0 : Int) ≤ i))
                  (cnd (decide (i < (((List.length l) : Nat) : Int)))
                    (cnd (decide ((List.getD l (Int.toNat k) (0 : Int)) = (List.getD l (Int.toNat i) (0 : Int))))
                      ((rmedian_L2_I l i (Go.IntKind.wrap Go.IntKind.i64 (k + (1 : Int))) ls (Go.IntKind.wrap Go.IntKind.i64 (sm + (1 : Int)))) ∧ (((rmedian_L2_m l i (Go.IntKind.wrap Go.IntKind.i64 (k + (1 : Int))) ls (Go.IntKind.wrap Go.IntKind.i64 (sm + (1 : Int)))) < (rmedian_L2_m l i k ls sm)) ∧ (((Go.IntKind.wrap Go.IntKind.i64 (k + (1 : Int))) = (Go.IntKind.wrap Go.IntKind.i64 (k + (1 : Int)))) ∧ (((Go.IntKind.wrap Go.IntKind.i64 (sm + (1 : Int))) = (Go.IntKind.wrap Go.IntKind.i64 (sm + (1 : Int)))) ∧ ((ls = ls) ∧ (((decide (i < (((List.length l) : Nat) : Int))) = (decide (i < (((List.length l) : Nat) : Int)))) ∧ (((((List.length l) : Nat) : Int) = (((List.length l) : Nat) : Int)) ∧ (True ∧ ((i = i) ∧ ((i = i) ∧ (((0 : Int) = (0 : Int)) ∧ (True ∧ ((l = l) ∧ True)))))))))))))
                      ((rmedian_L2_I l i (Go.IntKind.wrap Go.IntKind.i64 (k + (1 : Int))) ls sm) ∧ (((rmedian_L2_m l i (Go.IntKind.wrap Go.IntKind.i64 (k + (1 : Int))) ls sm) < (rmedian_L2_m l i k ls sm)) ∧ (((Go.IntKind.wrap Go.IntKind.i64 (k + (1 : Int))) = (Go.IntKind.wrap Go.IntKind.i64 (k + (1 : Int)))) ∧ ((sm = sm) ∧ ((ls = ls) ∧ (((decide (i < (((List.length l) : Nat) : Int))) = (decide (i < (((List.length l) : Nat) : Int)))) ∧ (((((List.length l) : Nat) : Int) = (((List.length l) : Nat) : Int)) ∧ (True ∧ ((i = i) ∧ ((i = i) ∧ (((0 : Int) = (0 : Int)) ∧ (True ∧ ((l = l) ∧ True))))))))))))))
                    False)
                  False)
                False)
              False))
          False)
        False)
      False)
    False)
  (cnd ((decide (ls ≤ (Go.IntKind.wrap Go.IntKind.i64 (Int.tdiv (Go.IntKind.wrap Go.IntKind.i64 ((((List.length l) : Nat) : Int) - (1 : Int))) (2 : Int))))) && (decide ((Go.IntKind.wrap Go.IntKind.i64 (Int.tdiv (Go.IntKind.wrap Go.IntKind.i64 ((((List.length l) : Nat) : Int) - (1 : Int))) (2 : Int))) < (Go.IntKind.wrap Go.IntKind.i64 (ls + sm)))))
    (cnd (decide ((0 : Int) ≤ i))
      (cnd (decide (i < (((List.length l) : Nat) : Int)))
        ((List.getD l (Int.toNat i) (0 : Int)) = (med l))
        False)
      False)
    ((rmedian_L1_I l (Go.IntKind.wrap Go.IntKind.i64 (i + (1 : Int)))) ∧ (((rmedian_L1_m l (Go.IntKind.wrap Go.IntKind.i64 (i + (1 : Int)))) < (rmedian_L1_m l i)) ∧ (((Go.IntKind.wrap Go.IntKind.i64 (i + (1 : Int))) = (Go.IntKind.wrap Go.IntKind.i64 (i + (1 : Int)))) ∧ (((0 : Int) = (0 : Int)) ∧ (True ∧ ((l = l) ∧ True))))))))
set_option maxRecDepth 100000 in
theorem rmedian_L2_tree (l : List Int) (i : Int) (k : Int) (ls : Int) (sm : Int) : rmedian_L2_T l i k ls sm = ex Try.prog (conOf []) (subC (subC (bodyOf Try.f36) [1, 0, 1, 0, 0]) [1, 0, 0, 1, 0, 1, 0, 0]) (nextE (rmedian_L2_N l i k ls sm) (kont Try.prog (conOf []) (subC (bodyOf Try.f36) [1, 0, 1, 0, 0]) [1, 0, 0, 1, 0, 1, 0] (nextE (rmedian_L1_N l i) (kont Try.prog (conOf []) (bodyOf Try.f36) [1, 0, 1, 0] (retPost Try.prog Try.f36 1 (rmedian_res l)))))) (rmedian_L2_F l i k ls sm) := by kernel_rfl
set_option maxRecDepth 100000 in
theorem rmedian_L2_round (l : List Int) (i : Int) (k : Int) (ls : Int) (sm : Int) (p0 : decide (1 ≤ l.length) = true) (p1 : decide (l.length ≤ 16) = true) (hI_L1 : rmedian_L1_I l i) (hI_L2 : rmedian_L2_I l i k ls sm) : rmedian_L2_T l i k ls sm := by
  obtain ⟨⟨a1, a2⟩, a3⟩ := hI_L1
  obtain ⟨⟨c1, c2, c3⟩, c4, c5⟩ := hI_L2
  simp only [decide_eq_true_eq] at p0 p1
  have d1 := List.countP_le_length (p := fun z => decide (z < l.getD i.toNat 0)) (l := l.take k.toNat)
  have d2 := List.countP_le_length (p := fun z => decide (z = l.getD i.toNat 0)) (l := l.take k.toNat)
  rw [List.length_take] at d1 d2
  have j2 : decide (0 ≤ i) = true := by simpa using a1
  have j3 : decide (i < (l.length : Int)) = true := by rw [decide_eq_true_eq]; omega
  unfold rmedian_L2_T
  rw [w64 (n := k + 1) (by omega) (by omega), w64 (n := ls + 1) (by omega) (by omega), w64 (n := sm + 1) (by omega) (by omega), w64 (n := i + 1) (by omega) (by omega), w64 (n := ls + sm) (by omega) (by omega)]
  by_cases hl : k < l.length
  · have j1 : decide (0 ≤ k) = true := by simpa using c1
    have j4 : decide (k < (l.length : Int)) = true := by rw [decide_eq_true_eq]; exact hl
    have e1 : ∀ p : Int → Bool, (l.take (k + 1).toNat).countP p = (l.take k.toNat).countP p + (if p (l.getD k.toNat 0) then 1 else 0) := by
      intro p
      rw [show (k + 1).toNat = k.toNat + 1 by omega, take_succ_getD _ _ (by omega), List.countP_append]
      simp [List.countP_cons]
    simp only [j1, j2, j3, j4, cnd]
    by_cases h1 : l.getD k.toNat 0 < l.getD i.toNat 0
    · have h2 : ¬ l.getD k.toNat 0 = l.getD i.toNat 0 := by omega
      simp only [h1, h2, decide_true, decide_false]
      refine ⟨⟨⟨by omega, by omega, c3⟩, ?_, ?_⟩, ?_, by simp⟩
      · rw [e1, c4]; simp only [h1, decide_true, if_true]; omega
      · rw [e1, c5]; simp only [h2, decide_false, Bool.false_eq_true, if_false]; omega
      · unfold rmedian_L2_m; omega
    · by_cases h2 : l.getD k.toNat 0 = l.getD i.toNat 0
      · have h1' : ¬ l.getD i.toNat 0 < l.getD i.toNat 0 := by omega
        simp only [h2, h1', decide_true, decide_false]
        refine ⟨⟨⟨by omega, by omega, c3⟩, ?_, ?_⟩, ?_, by simp⟩
        · rw [e1, c4, h2]; simp only [h1', decide_false, Bool.false_eq_true, if_false]; omega
        · rw [e1, c5, h2]; simp only [decide_true, if_true]; omega
        · unfold rmedian_L2_m; omega
      · simp only [h1, h2, decide_false]
        refine ⟨⟨⟨by omega, by omega, c3⟩, ?_, ?_⟩, ?_, by simp⟩
        · rw [e1, c4]; simp only [h1, decide_false, Bool.false_eq_true, if_false]; omega
        · rw [e1, c5]; simp only [h2, decide_false, Bool.false_eq_true, if_false]; omega
        · unfold rmedian_L2_m; omega
  · have j4 : decide (k < (l.length : Int)) = false := by rw [decide_eq_false_iff_not]; exact hl
    rw [List.take_of_length_le (by omega)] at c4 c5
    have hm : l.getD i.toNat 0 ∈ l := by
      rw [List.getD_eq_getElem?_getD, List.getElem?_eq_getElem (by omega)]
      exact List.getElem_mem (by omega)
    have hq : Int.tdiv ((l.length : Int) - 1) 2 = ((l.length - 1) / 2 : Nat) := by
      rw [tdiv_pos (by omega)]
      omega
    rw [w64 (n := (l.length : Int) - 1) (by omega) (by omega), hq, w64 (n := (((l.length - 1) / 2 : Nat) : Int)) (by omega) (by omega)]
    simp only [j4, cnd]
    by_cases hc : ls ≤ (((l.length - 1) / 2 : Nat) : Int) ∧ (((l.length - 1) / 2 : Nat) : Int) < ls + sm
    · have j5 : (decide (ls ≤ (((l.length - 1) / 2 : Nat) : Int)) && decide ((((l.length - 1) / 2 : Nat) : Int) < ls + sm)) = true := by rw [decide_eq_true hc.1, decide_eq_true hc.2]; rfl
      simp only [j5, j2, j3]
      exact isMed_uniq ⟨hm, by omega, by omega⟩ (med_is p0)
    · have j5 : (decide (ls ≤ (((l.length - 1) / 2 : Nat) : Int)) && decide ((((l.length - 1) / 2 : Nat) : Int) < ls + sm)) = false := by
        rw [Bool.eq_false_iff]
        intro h
        simp only [Bool.and_eq_true, decide_eq_true_eq] at h
        exact hc h
      simp only [j5]
      refine ⟨⟨⟨by omega, by omega⟩, fun j hj => ?_⟩, ?_, by simp⟩
      · rcases Int.lt_or_le j i with h | h
        · exact a3 j h
        · have : j = i.toNat := by omega
          subst this
          rintro ⟨_, h1, h2⟩
          exact hc ⟨by omega, by omega⟩
      · unfold rmedian_L1_m
        omega
set_option maxRecDepth 100000 in
theorem rmedian_L2_entry1 (l : List Int) (i : Int) : (((rmedian_L2_I l i (0 : Int) (0 : Int) (0 : Int)) ∧ (((0 : Int) = (0 : Int)) ∧ (((0 : Int) = (0 : Int)) ∧ (((0 : Int) = (0 : Int)) ∧ (((decide (i < (((List.length l) : Nat) : Int))) = (decide (i < (((List.length l) : Nat) : Int)))) ∧ (((((List.length l) : Nat) : Int) = (((List.length l) : Nat) : Int)) ∧ (True ∧ ((i = i) ∧ ((i = i) ∧ (((0 : Int) = (0 : Int)) ∧ (True ∧ ((l = l) ∧ True))))))))))))) = rmedian_L2_E l i (rmedian_L2_S1 l i) := by kernel_rfl
theorem rmedian_L2_1 (l : List Int) (i : Int) (p0 : decide (1 ≤ l.length) = true) (p1 : decide (l.length ≤ 16) = true) (hI_L1 : rmedian_L1_I l i) (h : ((rmedian_L2_I l i (0 : Int) (0 : Int) (0 : Int)) ∧ (((0 : Int) = (0 : Int)) ∧ (((0 : Int) = (0 : Int)) ∧ (((0 : Int) = (0 : Int)) ∧ (((decide (i < (((List.length l) : Nat) : Int))) = (decide (i < (((List.length l) : Nat) : Int)))) ∧ (((((List.length l) : Nat) : Int) = (((List.length l) : Nat) : Int)) ∧ (True ∧ ((i = i) ∧ ((i = i) ∧ (((0 : Int) = (0 : Int)) ∧ (True ∧ ((l = l) ∧ True))))))))))))) : LoopP (ex Try.prog (conOf []) (subC (subC (bodyOf Try.f36) [1, 0, 1, 0, 0]) [1, 0, 0, 1, 0, 1, 0, 0])) (kont Try.prog (conOf []) (subC (bodyOf Try.f36) [1, 0, 1, 0, 0]) [1, 0, 0, 1, 0, 1, 0] (nextE (rmedian_L1_N l i) (kont Try.prog (conOf []) (bodyOf Try.f36) [1, 0, 1, 0] (retPost Try.prog Try.f36 1 (rmedian_res l))))) (rmedian_L2_S1 l i) := by
  have hE : rmedian_L2_E l i (rmedian_L2_S1 l i) := Eq.mp (rmedian_L2_entry1 l i) h
  unfold rmedian_L2_E at hE
  obtain ⟨k, hE⟩ := getI_of hE
  obtain ⟨ls, hE⟩ := getI_of hE
  obtain ⟨sm, hE⟩ := getI_of hE
  refine loop_of (α := (Int) × (Int) × (Int)) (fun xx_ => rmedian_L2_F l i xx_.1 xx_.2.1 xx_.2.2) (fun xx_ => rmedian_L2_I l i xx_.1 xx_.2.1 xx_.2.2) (fun xx_ => rmedian_L2_m l i xx_.1 xx_.2.1 xx_.2.2) (fun xx_ => rmedian_L2_N l i xx_.1 xx_.2.1 xx_.2.2) (fun xx_ => rmedian_L2_T l i xx_.1 xx_.2.1 xx_.2.2) (fun xx_ s_ h => ?_) ⟨⟨k, ls, sm⟩, hE⟩ (fun xx_ => rmedian_L2_tree l i xx_.1 xx_.2.1 xx_.2.2) (fun xx_ hI => rmedian_L2_round l i xx_.1 xx_.2.1 xx_.2.2 p0 p1 hI_L1 hI)
  unfold rmedian_L2_N at h
  obtain ⟨k, h⟩ := getI_of h
  obtain ⟨ls, h⟩ := getI_of h
  obtain ⟨sm, h⟩ := getI_of h
  exact ⟨⟨k, ls, sm⟩, h⟩
def rmedian_L1_T (l : List Int) (i : Int) : Prop := (cnd (decide (i < (((List.length l) : Nat) : Int)))
  (LoopP (ex Try.prog (conOf []) (subC (subC (bodyOf Try.f36) [1, 0, 1, 0, 0]) [1, 0, 0, 1, 0, 1, 0, 0])) (kont Try.prog (conOf []) (subC (bodyOf Try.f36) [1, 0, 1, 0, 0]) [1, 0, 0, 1, 0, 1, 0] (nextE (rmedian_L1_N l i) (kont Try.prog (conOf []) (bodyOf Try.f36) [1, 0, 1, 0] (retPost Try.prog Try.f36 1 (rmedian_res l))))) (rmedian_L2_S1 l i))
  ((0 : Int) = (med l)))
set_option maxRecDepth 100000 in
theorem rmedian_L1_tree (l : List Int) (i : Int) : rmedian_L1_T l i = ex Try.prog (conOf []) (subC (bodyOf Try.f36) [1, 0, 1, 0, 0]) (nextE (rmedian_L1_N l i) (kont Try.prog (conOf []) (bodyOf Try.f36) [1, 0, 1, 0] (retPost Try.prog Try.f36 1 (rmedian_res l)))) (rmedian_L1_F l i) := by kernel_rfl
set_option maxRecDepth 100000 in
theorem rmedian_L1_round (l : List Int) (i : Int) (p0 : decide (1 ≤ l.length) = true) (p1 : decide (l.length ≤ 16) = true) (hI_L1 : rmedian_L1_I l i) : rmedian_L1_T l i := by
  have hI := hI_L1
  obtain ⟨⟨a1, a2⟩, a3⟩ := hI_L1
  have q0 := p0
  have q1 := p1
  simp only [decide_eq_true_eq] at q0 q1
  unfold rmedian_L1_T
  by_cases hl : i < l.length
  · have j0 : decide (i < (l.length : Int)) = true := by simpa using hl
    simp only [j0, cnd]
    refine rmedian_L2_1 l i p0 p1 hI ⟨⟨⟨by omega, by omega, hl⟩, by simp⟩, by simp⟩
  · exfalso
    obtain ⟨h1, h2⟩ := med_is (l := l) q0
    obtain ⟨j, hj, hje⟩ := List.getElem_of_mem h1
    refine a3 j (by omega) ?_
    rw [List.getD_eq_getElem?_getD, List.getElem?_eq_getElem hj, Option.getD_some, hje]
    exact med_is q0
set_option maxRecDepth 100000 in
theorem rmedian_L1_entry1 (l : List Int) : (((rmedian_L1_I l (0 : Int)) ∧ (((0 : Int) = (0 : Int)) ∧ (((0 : Int) = (0 : Int)) ∧ (True ∧ ((l = l) ∧ True)))))) = rmedian_L1_E l (rmedian_L1_S1 l) := by kernel_rfl
theorem rmedian_L1_1 (l : List Int) (p0 : decide (1 ≤ l.length) = true) (p1 : decide (l.length ≤ 16) = true) (h : ((rmedian_L1_I l (0 : Int)) ∧ (((0 : Int) = (0 : Int)) ∧ (((0 : Int) = (0 : Int)) ∧ (True ∧ ((l = l) ∧ True)))))) : LoopP (ex Try.prog (conOf []) (subC (bodyOf Try.f36) [1, 0, 1, 0, 0])) (kont Try.prog (conOf []) (bodyOf Try.f36) [1, 0, 1, 0] (retPost Try.prog Try.f36 1 (rmedian_res l))) (rmedian_L1_S1 l) := by
  have hE : rmedian_L1_E l (rmedian_L1_S1 l) := Eq.mp (rmedian_L1_entry1 l) h
  unfold rmedian_L1_E at hE
  obtain ⟨i, hE⟩ := getI_of hE
  refine loop_of (α := (Int)) (fun xx_ => rmedian_L1_F l xx_) (fun xx_ => rmedian_L1_I l xx_) (fun xx_ => rmedian_L1_m l xx_) (fun xx_ => rmedian_L1_N l xx_) (fun xx_ => rmedian_L1_T l xx_) (fun xx_ s_ h => ?_) ⟨i, hE⟩ (fun xx_ => rmedian_L1_tree l xx_) (fun xx_ hI => rmedian_L1_round l xx_ p0 p1 hI)
  unfold rmedian_L1_N at h
  obtain ⟨i, h⟩ := getI_of h
  exact ⟨i, h⟩
set_option maxRecDepth 100000 in
theorem rmedian_tree (l : List Int) : ((LoopP (ex Try.prog (conOf []) (subC (bodyOf Try.f36) [1, 0, 1, 0, 0])) (kont Try.prog (conOf []) (bodyOf Try.f36) [1, 0, 1, 0] (retPost Try.prog Try.f36 1 (rmedian_res l))) (rmedian_L1_S1 l))) = EXD Try.prog (conOf []) Try.f36 [.cel (.row 0)] [.ints .i64 l] (rmedian_res l) := by kernel_rfl
theorem rmedian_holds (l : List Int) (p0 : decide (1 ≤ l.length) = true) (p1 : decide (l.length ≤ 16) = true) : (LoopP (ex Try.prog (conOf []) (subC (bodyOf Try.f36) [1, 0, 1, 0, 0])) (kont Try.prog (conOf []) (bodyOf Try.f36) [1, 0, 1, 0] (retPost Try.prog Try.f36 1 (rmedian_res l))) (rmedian_L1_S1 l)) := by
  exact rmedian_L1_1 l p0 p1 ⟨⟨⟨by omega, by omega⟩, fun j hj => by omega⟩, by simp⟩
set_option maxHeartbeats 2000000 in
theorem rmedian_ok : SoundEnt Try.prog rmedian_e := by
  refine ent_of_ex (Γ := (conOf [])) (conOf_sound snil) (by kernel_rfl) Try.func36 (by kernel_rfl) (by kernel_rfl) (fun args rows res h ho => ?_)
  change rmedian_go args rows = some res at h
  unfold rmedian_go at h
  split at h
  · simp only [Option.some.injEq] at h
    subst h
    rename_i q0_
    obtain ⟨p0, p1, _⟩ := ho
    exact EX.of (rmedian_tree q0_) (rmedian_holds q0_ p0 p1)
  · cases h
def sequal_res (l : List Int) (m : List Int) : CRes := ⟨[decide (l.length ≤ 1000000), decide (m.length ≤ 1000000)], .one (.cel (.bool (decide (l = m)))), []⟩
def sequal_go : List TV → List RowA → Option CRes := fun args rows =>
  match args, rows with
  | [.cel (.row 0), .cel (.row 1)], [.ints .i64 l, .ints .i64 m] => some (sequal_res l m)
  | _, _ => none
def sequal_e : Ent := ⟨37, [.ints .i64 [], .ints .i64 []], sequal_go⟩
def sequal_L1_F (l : List Int) (m : List Int) (i : Int) : St := ⟨26, [], [(13, (.one (.cel (.int .i64 i)))), (12, (.one (.cel (.int .i64 (((List.length l) : Nat) : Int))))), (4, (.one (.cel (.bool Bool.false)))), (0, (.one (.cel (.row 0)))), (1, (.one (.cel (.row 1))))], [], [⟨(.ints .i64 l), none⟩, ⟨(.ints .i64 m), none⟩]⟩
def sequal_L1_I (l : List Int) (m : List Int) (i : Int) : Prop := (0 ≤ i ∧ i ≤ l.length ∧ l.length = m.length) ∧ (l.take i.toNat = m.take i.toNat)
def sequal_L1_m (l : List Int) (m : List Int) (i : Int) : Nat := (l.length - i).toNat
def sequal_L1_N (l : List Int) (m : List Int) (i' : Int) (st_ : St) : Prop := getI st_ 13 fun i => sequal_L1_I l m i ∧ sequal_L1_m l m i < sequal_L1_m l m i' ∧ SubA st_ (sequal_L1_F l m i)
def sequal_L1_E (l : List Int) (m : List Int) (st_ : St) : Prop := getI st_ 13 fun i => sequal_L1_I l m i ∧ SubA st_ (sequal_L1_F l m i)
def sequal_L1_S1 (l : List Int) (m : List Int) : St := ⟨26, [], [(13, (.one (.cel (.int .i64 (0 : Int))))), (12, (.one (.cel (.int .i64 (((List.length l) : Nat) : Int))))), (11, (.one (.cel (.row 0)))), (10, (.one (.cel (.bool (!(decide ((((List.length l) : Nat) : Int) = (((List.length m) : Nat) : Int)))))))), (9, (.one (.cel (.int .i64 (((List.length m) : Nat) : Int))))), (8, (.one (.cel (.row 1)))), (7, (.one (.cel (.int .i64 (((List.length l) : Nat) : Int))))), (6, (.one (.cel (.row 0)))), (4, (.one (.cel (.bool Bool.false)))), (0, (.one (.cel (.row 0)))), (1, (.one (.cel (.row 1))))], [], [⟨(.ints .i64 l), none⟩, ⟨(.ints .i64 m), none⟩]⟩
def sequal_L1_T (l : List Int) (m : List Int) (i : Int) : Prop := (cnd (decide (i < (((List.length l) : Nat) : Int)))
  (cnd (decide ((0 : Int) ≤ i))
    (cnd (decide (i < (((List.length l) : Nat) : Int)))
      (cnd (decide ((0 : Int) ≤ i))
        (cnd (decide (i < (((List.length m) : Nat) : Int)))
          (cnd (!(decide ((List.getD l (Int.toNat i) (0 : Int)) = (List.getD m (Int.toNat i) (0 : Int)))))
            (Bool.false = (decide (l = m)))
            ((sequal_L1_I l m (Go.IntKind.wrap Go.IntKind.i64 (i + (1 : Int)))) ∧ (((sequal_L1_m l m (Go.IntKind.wrap Go.IntKind.i64 (i + (1 : Int)))) < (sequal_L1_m l m i)) ∧ (((Go.IntKind.wrap Go.IntKind.i64 (i + (1 : Int))) = (Go.IntKind.wrap Go.IntKind.i64 (i + (1 : Int)))) ∧ (((((List.length l) : Nat) : Int) = (((List.length l) : Nat) : Int)) ∧ ((Bool.false = Bool.false) ∧ (True ∧ (True ∧ ((l = l) ∧ ((m = m) ∧ True))))))))))
          False)
        False)
      False)
    False)
  (Bool.true = (decide (l = m))))
set_option maxRecDepth 100000 in
theorem sequal_L1_tree (l : List Int) (m : List Int) (i : Int) : sequal_L1_T l m i = ex Try.prog (conOf []) (subC (bodyOf Try.f37) [1, 1, 0, 1, 0, 0]) (nextE (sequal_L1_N l m i) (kont Try.prog (conOf []) (bodyOf Try.f37) [1, 1, 0, 1, 0] (retPost Try.prog Try.f37 2 (sequal_res l m)))) (sequal_L1_F l m i) := by kernel_rfl
set_option maxRecDepth 100000 in
theorem sequal_L1_round (l : List Int) (m : List Int) (i : Int) (p0 : decide (l.length ≤ 1000000) = true) (p1 : decide (m.length ≤ 1000000) = true) (hI_L1 : sequal_L1_I l m i) : sequal_L1_T l m i := by
  obtain ⟨⟨a1, a2, a3⟩, a4⟩ := hI_L1
  simp only [decide_eq_true_eq] at p0 p1
  unfold sequal_L1_T
  rw [w64 (n := i + 1) (by omega) (by omega)]
  by_cases hl : i < l.length
  · have j1 : decide (0 ≤ i) = true := by simpa using a1
    have j2 : decide (i < (m.length : Int)) = true := by rw [decide_eq_true_eq]; omega
    simp only [hl, decide_true, j1, j2, cnd]
    by_cases hx : l.getD i.toNat 0 = m.getD i.toNat 0
    · simp only [hx, decide_true, Bool.not_true]
      refine ⟨⟨⟨by omega, by omega, a3⟩, ?_⟩, ?_, by simp⟩
      · rw [show (i + 1).toNat = i.toNat + 1 by omega, take_succ_getD _ _ (by omega), take_succ_getD _ _ (by omega), a4, hx]
      · unfold sequal_L1_m
        omega
    · have : ¬ l = m := fun h => hx (by rw [h])
      simp only [hx, this, decide_false, Bool.not_false]
  · rw [List.take_of_length_le (by omega), List.take_of_length_le (by omega)] at a4
    have j0 : decide (i < (l.length : Int)) = false := by simpa using hl
    simp only [j0, cnd]
    simp [a4]
set_option maxRecDepth 100000 in
theorem sequal_L1_entry1 (l : List Int) (m : List Int) : (((sequal_L1_I l m (0 : Int)) ∧ (((0 : Int) = (0 : Int)) ∧ (((((List.length l) : Nat) : Int) = (((List.length l) : Nat) : Int)) ∧ ((Bool.false = Bool.false) ∧ (True ∧ (True ∧ ((l = l) ∧ ((m = m) ∧ True))))))))) = sequal_L1_E l m (sequal_L1_S1 l m) := by kernel_rfl
theorem sequal_L1_1 (l : List Int) (m : List Int) (p0 : decide (l.length ≤ 1000000) = true) (p1 : decide (m.length ≤ 1000000) = true) (h : ((sequal_L1_I l m (0 : Int)) ∧ (((0 : Int) = (0 : Int)) ∧ (((((List.length l) : Nat) : Int) = (((List.length l) : Nat) : Int)) ∧ ((Bool.false = Bool.false) ∧ (True ∧ (True ∧ ((l = l) ∧ ((m = m) ∧ True))))))))) : LoopP (ex Try.prog (conOf []) (subC (bodyOf Try.f37) [1, 1, 0, 1, 0, 0])) (kont Try.prog (conOf []) (bodyOf Try.f37) [1, 1, 0, 1, 0] (retPost Try.prog Try.f37 2 (sequal_res l m))) (sequal_L1_S1 l m) := by
  have hE : sequal_L1_E l m (sequal_L1_S1 l m) := Eq.mp (sequal_L1_entry1 l m) h
  unfold sequal_L1_E at hE
  obtain ⟨i, hE⟩ := getI_of hE
  refine loop_of (α := (Int)) (fun xx_ => sequal_L1_F l m xx_) (fun xx_ => sequal_L1_I l m xx_) (fun xx_ => sequal_L1_m l m xx_) (fun xx_ => sequal_L1_N l m xx_) (fun xx_ => sequal_L1_T l m xx_) (fun xx_ s_ h => ?_) ⟨i, hE⟩ (fun xx_ => sequal_L1_tree l m xx_) (fun xx_ hI => sequal_L1_round l m xx_ p0 p1 hI)
  unfold sequal_L1_N at h
  obtain ⟨i, h⟩ := getI_of h
  exact ⟨i, h⟩
set_option maxRecDepth 100000 in
theorem sequal_tree (l : List Int) (m : List Int) : ((cnd (!(decide ((((List.length l) : Nat) : Int) = (((List.length m) : Nat) : Int))))
  (Bool.false = (decide (l = m)))
  (LoopP (ex Try.prog (conOf []) (subC (bodyOf Try.f37) [1, 1, 0, 1, 0, 0])) (kont Try.prog (conOf []) (bodyOf Try.f37) [1, 1, 0, 1, 0] (retPost Try.prog Try.f37 2 (sequal_res l m))) (sequal_L1_S1 l m)))) = EXD Try.prog (conOf []) Try.f37 [.cel (.row 0), .cel (.row 1)] [.ints .i64 l, .ints .i64 m] (sequal_res l m) := by kernel_rfl
theorem sequal_holds (l : List Int) (m : List Int) (p0 : decide (l.length ≤ 1000000) = true) (p1 : decide (m.length ≤ 1000000) = true) : (cnd (!(decide ((((List.length l) : Nat) : Int) = (((List.length m) : Nat) : Int))))
  (Bool.false = (decide (l = m)))
  (LoopP (ex Try.prog (conOf []) (subC (bodyOf Try.f37) [1, 1, 0, 1, 0, 0])) (kont Try.prog (conOf []) (bodyOf Try.f37) [1, 1, 0, 1, 0] (retPost Try.prog Try.f37 2 (sequal_res l m))) (sequal_L1_S1 l m))) := by
  by_cases h : l.length = m.length
  · have j : (!decide ((l.length : Int) = (m.length : Int))) = false := by simp [h]
    simp only [j, cnd]
    exact sequal_L1_1 l m p0 p1 ⟨⟨⟨by omega, by omega, h⟩, by simp⟩, by simp⟩
  · have h2 : ¬ (l.length : Int) = (m.length : Int) := by omega
    have h3 : ¬ l = m := fun e => h (by rw [e])
    simp [h2, h3, cnd]
set_option maxHeartbeats 2000000 in
theorem sequal_ok : SoundEnt Try.prog sequal_e := by
  refine ent_of_ex (Γ := (conOf [])) (conOf_sound snil) (by kernel_rfl) Try.func37 (by kernel_rfl) (by kernel_rfl) (fun args rows res h ho => ?_)
  change sequal_go args rows = some res at h
  unfold sequal_go at h
  split at h
  · simp only [Option.some.injEq] at h
    subst h
    rename_i q0_ q1_
    obtain ⟨p0, p1, _⟩ := ho
    exact EX.of (sequal_tree q0_ q1_) (sequal_holds q0_ q1_ p0 p1)
  · cases h
def lwindows_res (n : Int) (l : List Int) (n2 : Int) (m : List Int) : CRes := ⟨[decide (l.length ≤ 1000000), decide (m.length ≤ 1000000)], .one (.cel (.bool (decide (n = n2) && decide (l = m)))), []⟩
def lwindows_go : List TV → List RowA → Option CRes := fun args rows =>
  match args, rows with
  | [.agg [.int .i64 n, .row 0], .agg [.int .i64 n2, .row 1]], [.ints .i64 l, .ints .i64 m] => some (lwindows_res n l n2 m)
  | _, _ => none
def lwindows_e : Ent := ⟨33, [.ints .i64 [], .ints .i64 []], lwindows_go⟩
set_option maxRecDepth 100000 in
theorem lwindows_tree (n : Int) (l : List Int) (n2 : Int) (m : List Int) : ((cnd ((!((decide (n = n2)) == Bool.true)) || (decide ((List.length l) ≤ 1000000)))
  (cnd ((!((decide (n = n2)) == Bool.true)) || (decide ((List.length m) ≤ 1000000)))
    (((decide (n = n2)) && (decide (l = m))) = ((decide (n = n2)) && (decide (l = m))))
    False)
  False)) = EXD Try.prog (conOf [sequal_e]) Try.f33 [.agg [.int .i64 n, .row 0], .agg [.int .i64 n2, .row 1]] [.ints .i64 l, .ints .i64 m] (lwindows_res n l n2 m) := by kernel_rfl
theorem lwindows_holds (n : Int) (l : List Int) (n2 : Int) (m : List Int) (p0 : decide (l.length ≤ 1000000) = true) (p1 : decide (m.length ≤ 1000000) = true) : (cnd ((!((decide (n = n2)) == Bool.true)) || (decide ((List.length l) ≤ 1000000)))
  (cnd ((!((decide (n = n2)) == Bool.true)) || (decide ((List.length m) ≤ 1000000)))
    (((decide (n = n2)) && (decide (l = m))) = ((decide (n = n2)) && (decide (l = m))))
    False)
  False) := by
  rw [p0, p1]
  simp [cnd]
set_option maxHeartbeats 2000000 in
theorem lwindows_ok : SoundEnt Try.prog lwindows_e := by
  refine ent_of_ex (Γ := (conOf [sequal_e])) (conOf_sound (scons sequal_ok snil)) (by kernel_rfl) Try.func33 (by kernel_rfl) (by kernel_rfl) (fun args rows res h ho => ?_)
  change lwindows_go args rows = some res at h
  unfold lwindows_go at h
  split at h
  · simp only [Option.some.injEq] at h
    subst h
    rename_i q0_ q2_ q1_ q3_
    obtain ⟨p0, p1, _⟩ := ho
    exact EX.of (lwindows_tree q0_ q1_ q2_ q3_) (lwindows_holds q0_ q1_ q2_ q3_ p0 p1)
  · cases h
def winds2_res (n : Int) (l : List Int) (x : Int) : CRes := ⟨[wfI .i64 n, wfL .i64 l, wfI .i64 x], .one (.cel (.bool (true))), []⟩
def winds2_go : List TV → List RowA → Option CRes := fun args rows =>
  match args, rows with
  | [.agg [.int .i64 n, .row 0], .cel (.int .i64 x)], [.ints .i64 l] => some (winds2_res n l x)
  | _, _ => none
def winds2_e : Ent := ⟨11, [.ints .i64 []], winds2_go⟩
set_option maxRecDepth 100000 in
theorem winds2_tree (n : Int) (l : List Int) (x : Int) : ((cnd (decide ((40 : Int) < (((List.length l) : Nat) : Int)))
  (Bool.true = Bool.true)
  (cnd ((!((((decide ((1 : Int) ≤ n)) && (decide (n ≤ (15 : Int)))) && (decide ((((List.length l) : Nat) : Int) ≤ n))) && (List.all l isV))) || (!(isV x)))
    (cnd ((((decide ((1 : Int) ≤ n)) && (decide (n ≤ (15 : Int)))) && (decide ((((List.length l) : Nat) : Int) ≤ n))) && (List.all l isV))
      (cnd ((!(((((decide ((addE n l x) = (2 : Int))) && (decide ((addE n l x) = (2 : Int)))) && (decide ((avg n l x) = (0 : Int)))) && (decide ((medV n l x) = (0 : Int)))) == Bool.true)) || (decide ((List.length (addL n l x)) ≤ 1000000)))
        (cnd ((!(((((decide ((addE n l x) = (2 : Int))) && (decide ((addE n l x) = (2 : Int)))) && (decide ((avg n l x) = (0 : Int)))) && (decide ((medV n l x) = (0 : Int)))) == Bool.true)) || (decide ((List.length ([] : List Int)) ≤ 1000000)))
          (cnd ((!((((((decide ((addE n l x) = (2 : Int))) && (decide ((addE n l x) = (2 : Int)))) && (decide ((avg n l x) = (0 : Int)))) && (decide ((medV n l x) = (0 : Int)))) && ((decide ((addN n l x) = (0 : Int))) && (decide ((addL n l x) = ([] : List Int))))) == Bool.true)) || (decide ((List.length (addL n l x)) ≤ 1000000)))
            (cnd ((!((((((decide ((addE n l x) = (2 : Int))) && (decide ((addE n l x) = (2 : Int)))) && (decide ((avg n l x) = (0 : Int)))) && (decide ((medV n l x) = (0 : Int)))) && ((decide ((addN n l x) = (0 : Int))) && (decide ((addL n l x) = ([] : List Int))))) == Bool.true)) || (decide ((List.length ([] : List Int)) ≤ 1000000)))
              (((((((decide ((addE n l x) = (2 : Int))) && (decide ((addE n l x) = (2 : Int)))) && (decide ((avg n l x) = (0 : Int)))) && (decide ((medV n l x) = (0 : Int)))) && ((decide ((addN n l x) = (0 : Int))) && (decide ((addL n l x) = ([] : List Int))))) && ((decide ((addN n l x) = (0 : Int))) && (decide ((addL n l x) = ([] : List Int))))) = Bool.true)
              False)
            False)
          False)
        False)
      (cnd ((!(((((decide ((addE n l x) = (1 : Int))) && (decide ((addE n l x) = (1 : Int)))) && (decide ((avg n l x) = (0 : Int)))) && (decide ((medV n l x) = (0 : Int)))) == Bool.true)) || (decide ((List.length (addL n l x)) ≤ 1000000)))
        (cnd ((!(((((decide ((addE n l x) = (1 : Int))) && (decide ((addE n l x) = (1 : Int)))) && (decide ((avg n l x) = (0 : Int)))) && (decide ((medV n l x) = (0 : Int)))) == Bool.true)) || (decide ((List.length ([] : List Int)) ≤ 1000000)))
          (cnd ((!((((((decide ((addE n l x) = (1 : Int))) && (decide ((addE n l x) = (1 : Int)))) && (decide ((avg n l x) = (0 : Int)))) && (decide ((medV n l x) = (0 : Int)))) && ((decide ((addN n l x) = (0 : Int))) && (decide ((addL n l x) = ([] : List Int))))) == Bool.true)) || (decide ((List.length (addL n l x)) ≤ 1000000)))
            (cnd ((!((((((decide ((addE n l x) = (1 : Int))) && (decide ((addE n l x) = (1 : Int)))) && (decide ((avg n l x) = (0 : Int)))) && (decide ((medV n l x) = (0 : Int)))) && ((decide ((addN n l x) = (0 : Int))) && (decide ((addL n l x) = ([] : List Int))))) == Bool.true)) || (decide ((List.length ([] : List Int)) ≤ 1000000)))
              (((((((decide ((addE n l x) = (1 : Int))) && (decide ((addE n l x) = (1 : Int)))) && (decide ((avg n l x) = (0 : Int)))) && (decide ((medV n l x) = (0 : Int)))) && ((decide ((addN n l x) = (0 : Int))) && (decide ((addL n l x) = ([] : List Int))))) && ((decide ((addN n l x) = (0 : Int))) && (decide ((addL n l x) = ([] : List Int))))) = Bool.true)
              False)
            False)
          False)
        False))
    (cnd (decide ((addE n l x) = (0 : Int)))
      (cnd ((!(((decide ((addE n l x) = (0 : Int))) && (decide ((addE n l x) = (0 : Int)))) == Bool.true)) || (decide ((List.length (addL n l x)) ≤ 1000000)))
        (cnd ((!(((decide ((addE n l x) = (0 : Int))) && (decide ((addE n l x) = (0 : Int)))) == Bool.true)) || (decide ((List.length (addL n l x)) ≤ 1000000)))
          (cnd ((!((((decide ((addE n l x) = (0 : Int))) && (decide ((addE n l x) = (0 : Int)))) && ((decide ((addN n l x) = n)) && (decide ((addL n l x) = (addL n l x))))) == Bool.true)) || (decide ((List.length (addL n l x)) ≤ 1000000)))
            (cnd ((!((((decide ((addE n l x) = (0 : Int))) && (decide ((addE n l x) = (0 : Int)))) && ((decide ((addN n l x) = n)) && (decide ((addL n l x) = (addL n l x))))) == Bool.true)) || (decide ((List.length (addL n l x)) ≤ 1000000)))
              (cnd ((!(((((decide ((addE n l x) = (0 : Int))) && (decide ((addE n l x) = (0 : Int)))) && ((decide ((addN n l x) = n)) && (decide ((addL n l x) = (addL n l x))))) && ((decide ((addN n l x) = n)) && (decide ((addL n l x) = (addL n l x))))) == Bool.true)) || (decide (1 ≤ (List.length (addL n l x)))))
                (cnd ((!(((((decide ((addE n l x) = (0 : Int))) && (decide ((addE n l x) = (0 : Int)))) && ((decide ((addN n l x) = n)) && (decide ((addL n l x) = (addL n l x))))) && ((decide ((addN n l x) = n)) && (decide ((addL n l x) = (addL n l x))))) == Bool.true)) || (decide ((List.length (addL n l x)) ≤ 16)))
                  (cnd ((!(((((decide ((addE n l x) = (0 : Int))) && (decide ((addE n l x) = (0 : Int)))) && ((decide ((addN n l x) = n)) && (decide ((addL n l x) = (addL n l x))))) && ((decide ((addN n l x) = n)) && (decide ((addL n l x) = (addL n l x))))) == Bool.true)) || (List.all (addL n l x) isV))
                    (cnd ((!((((((decide ((addE n l x) = (0 : Int))) && (decide ((addE n l x) = (0 : Int)))) && ((decide ((addN n l x) = n)) && (decide ((addL n l x) = (addL n l x))))) && ((decide ((addN n l x) = n)) && (decide ((addL n l x) = (addL n l x))))) && (decide ((avg n l x) = ((lsum (addL n l x)) / (((List.length (addL n l x)) : Nat) : Int))))) == Bool.true)) || (decide (1 ≤ (List.length (addL n l x)))))
                      (cnd ((!((((((decide ((addE n l x) = (0 : Int))) && (decide ((addE n l x) = (0 : Int)))) && ((decide ((addN n l x) = n)) && (decide ((addL n l x) = (addL n l x))))) && ((decide ((addN n l x) = n)) && (decide ((addL n l x) = (addL n l x))))) && (decide ((avg n l x) = ((lsum (addL n l x)) / (((List.length (addL n l x)) : Nat) : Int))))) == Bool.true)) || (decide ((List.length (addL n l x)) ≤ 16)))
                        (((((((decide ((addE n l x) = (0 : Int))) && (decide ((addE n l x) = (0 : Int)))) && ((decide ((addN n l x) = n)) && (decide ((addL n l x) = (addL n l x))))) && ((decide ((addN n l x) = n)) && (decide ((addL n l x) = (addL n l x))))) && (decide ((avg n l x) = ((lsum (addL n l x)) / (((List.length (addL n l x)) : Nat) : Int))))) && (decide ((medV n l x) = (med (addL n l x))))) = Bool.true)
                        False)
                      False)
                    False)
                  False)
                False)
              False)
            False)
          False)
        False)
      False)))) = EXD Try.prog (conOf [awake_e, faverage_e, fmedian_e, rvwin_e, rvalue_e, lwindows_e, radded_e, raverage_e, rmedian_e]) Try.f11 [.agg [.int .i64 n, .row 0], .cel (.int .i64 x)] [.ints .i64 l] (winds2_res n l x) := by kernel_rfl
theorem winds2_holds (n : Int) (l : List Int) (x : Int) (p0 : wfI .i64 n = true) (p1 : wfL .i64 l = true) (p2 : wfI .i64 x = true) : (cnd (decide ((40 : Int) < (((List.length l) : Nat) : Int)))
  (Bool.true = Bool.true)
  (cnd ((!((((decide ((1 : Int) ≤ n)) && (decide (n ≤ (15 : Int)))) && (decide ((((List.length l) : Nat) : Int) ≤ n))) && (List.all l isV))) || (!(isV x)))
    (cnd ((((decide ((1 : Int) ≤ n)) && (decide (n ≤ (15 : Int)))) && (decide ((((List.length l) : Nat) : Int) ≤ n))) && (List.all l isV))
      (cnd ((!(((((decide ((addE n l x) = (2 : Int))) && (decide ((addE n l x) = (2 : Int)))) && (decide ((avg n l x) = (0 : Int)))) && (decide ((medV n l x) = (0 : Int)))) == Bool.true)) || (decide ((List.length (addL n l x)) ≤ 1000000)))
        (cnd ((!(((((decide ((addE n l x) = (2 : Int))) && (decide ((addE n l x) = (2 : Int)))) && (decide ((avg n l x) = (0 : Int)))) && (decide ((medV n l x) = (0 : Int)))) == Bool.true)) || (decide ((List.length ([] : List Int)) ≤ 1000000)))
          (cnd ((!((((((decide ((addE n l x) = (2 : Int))) && (decide ((addE n l x) = (2 : Int)))) && (decide ((avg n l x) = (0 : Int)))) && (decide ((medV n l x) = (0 : Int)))) && ((decide ((addN n l x) = (0 : Int))) && (decide ((addL n l x) = ([] : List Int))))) == Bool.true)) || (decide ((List.length (addL n l x)) ≤ 1000000)))
            (cnd ((!((((((decide ((addE n l x) = (2 : Int))) && (decide ((addE n l x) = (2 : Int)))) && (decide ((avg n l x) = (0 : Int)))) && (decide ((medV n l x) = (0 : Int)))) && ((decide ((addN n l x) = (0 : Int))) && (decide ((addL n l x) = ([] : List Int))))) == Bool.true)) || (decide ((List.length ([] : List Int)) ≤ 1000000)))
              (((((((decide ((addE n l x) = (2 : Int))) && (decide ((addE n l x) = (2 : Int)))) && (decide ((avg n l x) = (0 : Int)))) && (decide ((medV n l x) = (0 : Int)))) && ((decide ((addN n l x) = (0 : Int))) && (decide ((addL n l x) = ([] : List Int))))) && ((decide ((addN n l x) = (0 : Int))) && (decide ((addL n l x) = ([] : List Int))))) = Bool.true)
              False)
            False)
          False)
        False)
      (cnd ((!(((((decide ((addE n l x) = (1 : Int))) && (decide ((addE n l x) = (1 : Int)))) && (decide ((avg n l x) = (0 : Int)))) && (decide ((medV n l x) = (0 : Int)))) == Bool.true)) || (decide ((List.length (addL n l x)) ≤ 1000000)))
        (cnd ((!(((((decide ((addE n l x) = (1 : Int))) && (decide ((addE n l x) = (1 : Int)))) && (decide ((avg n l x) = (0 : Int)))) && (decide ((medV n l x) = (0 : Int)))) == Bool.true)) || (decide ((List.length ([] : List Int)) ≤ 1000000)))
          (cnd ((!((((((decide ((addE n l x) = (1 : Int))) && (decide ((addE n l x) = (1 : Int)))) && (decide ((avg n l x) = (0 : Int)))) && (decide ((medV n l x) = (0 : Int)))) && ((decide ((addN n l x) = (0 : Int))) && (decide ((addL n l x) = ([] : List Int))))) == Bool.true)) || (decide ((List.length (addL n l x)) ≤ 1000000)))
            (cnd ((!((((((decide ((addE n l x) = (1 : Int))) && (decide ((addE n l x) = (1 : Int)))) && (decide ((avg n l x) = (0 : Int)))) && (decide ((medV n l x) = (0 : Int)))) && ((decide ((addN n l x) = (0 : Int))) && (decide ((addL n l x) = ([] : List Int))))) == Bool.true)) || (decide ((List.length ([] : List Int)) ≤ 1000000)))
              (((((((decide ((addE n l x) = (1 : Int))) && (decide ((addE n l x) = (1 : Int)))) && (decide ((avg n l x) = (0 : Int)))) && (decide ((medV n l x) = (0 : Int)))) && ((decide ((addN n l x) = (0 : Int))) && (decide ((addL n l x) = ([] : List Int))))) && ((decide ((addN n l x) = (0 : Int))) && (decide ((addL n l x) = ([] : List Int))))) = Bool.true)
              False)
            False)
          False)
        False))
    (cnd (decide ((addE n l x) = (0 : Int)))
      (cnd ((!(((decide ((addE n l x) = (0 : Int))) && (decide ((addE n l x) = (0 : Int)))) == Bool.true)) || (decide ((List.length (addL n l x)) ≤ 1000000)))
        (cnd ((!(((decide ((addE n l x) = (0 : Int))) && (decide ((addE n l x) = (0 : Int)))) == Bool.true)) || (decide ((List.length (addL n l x)) ≤ 1000000)))
          (cnd ((!((((decide ((addE n l x) = (0 : Int))) && (decide ((addE n l x) = (0 : Int)))) && ((decide ((addN n l x) = n)) && (decide ((addL n l x) = (addL n l x))))) == Bool.true)) || (decide ((List.length (addL n l x)) ≤ 1000000)))
            (cnd ((!((((decide ((addE n l x) = (0 : Int))) && (decide ((addE n l x) = (0 : Int)))) && ((decide ((addN n l x) = n)) && (decide ((addL n l x) = (addL n l x))))) == Bool.true)) || (decide ((List.length (addL n l x)) ≤ 1000000)))
              (cnd ((!(((((decide ((addE n l x) = (0 : Int))) && (decide ((addE n l x) = (0 : Int)))) && ((decide ((addN n l x) = n)) && (decide ((addL n l x) = (addL n l x))))) && ((decide ((addN n l x) = n)) && (decide ((addL n l x) = (addL n l x))))) == Bool.true)) || (decide (1 ≤ (List.length (addL n l x)))))
                (cnd ((!(((((decide ((addE n l x) = (0 : Int))) && (decide ((addE n l x) = (0 : Int)))) && ((decide ((addN n l x) = n)) && (decide ((addL n l x) = (addL n l x))))) && ((decide ((addN n l x) = n)) && (decide ((addL n l x) = (addL n l x))))) == Bool.true)) || (decide ((List.length (addL n l x)) ≤ 16)))
                  (cnd ((!(((((decide ((addE n l x) = (0 : Int))) && (decide ((addE n l x) = (0 : Int)))) && ((decide ((addN n l x) = n)) && (decide ((addL n l x) = (addL n l x))))) && ((decide ((addN n l x) = n)) && (decide ((addL n l x) = (addL n l x))))) == Bool.true)) || (List.all (addL n l x) isV))
                    (cnd ((!((((((decide ((addE n l x) = (0 : Int))) && (decide ((addE n l x) = (0 : Int)))) && ((decide ((addN n l x) = n)) && (decide ((addL n l x) = (addL n l x))))) && ((decide ((addN n l x) = n)) && (decide ((addL n l x) = (addL n l x))))) && (decide ((avg n l x) = ((lsum (addL n l x)) / (((List.length (addL n l x)) : Nat) : Int))))) == Bool.true)) || (decide (1 ≤ (List.length (addL n l x)))))
                      (cnd ((!((((((decide ((addE n l x) = (0 : Int))) && (decide ((addE n l x) = (0 : Int)))) && ((decide ((addN n l x) = n)) && (decide ((addL n l x) = (addL n l x))))) && ((decide ((addN n l x) = n)) && (decide ((addL n l x) = (addL n l x))))) && (decide ((avg n l x) = ((lsum (addL n l x)) / (((List.length (addL n l x)) : Nat) : Int))))) == Bool.true)) || (decide ((List.length (addL n l x)) ≤ 16)))
                        (((((((decide ((addE n l x) = (0 : Int))) && (decide ((addE n l x) = (0 : Int)))) && ((decide ((addN n l x) = n)) && (decide ((addL n l x) = (addL n l x))))) && ((decide ((addN n l x) = n)) && (decide ((addL n l x) = (addL n l x))))) && (decide ((avg n l x) = ((lsum (addL n l x)) / (((List.length (addL n l x)) : Nat) : Int))))) && (decide ((medV n l x) = (med (addL n l x))))) = Bool.true)
                        False)
                      False)
                    False)
                  False)
                False)
              False)
            False)
          False)
        False)
      False))) := by
  by_cases hl : (40 : Int) < l.length
  · simp only [hl, decide_true, cnd]
  · have hl2 : decide ((40 : Int) < l.length) = false := by simpa using hl
    simp only [hl2, cnd]
    have hc : (((decide (1 ≤ n) && decide (n ≤ 15)) && decide ((l.length : Int) ≤ n)) && l.all isV) = true ↔ (1 ≤ n ∧ n ≤ 15 ∧ (l.length : Int) ≤ n ∧ l.all isV = true) := by
      simp only [Bool.and_eq_true, decide_eq_true_eq, and_assoc]
    cases hV : (((decide (1 ≤ n) && decide (n ≤ 15)) && decide ((l.length : Int) ≤ n)) && l.all isV) with
    | false =>
      have hn : ¬ (1 ≤ n ∧ n ≤ 15 ∧ (l.length : Int) ≤ n ∧ l.all isV = true) := fun h => by
        rw [hc.2 h] at hV
        cases hV
      have e : addE n l x = 1 := by unfold addE; rw [if_neg hn]
      have e0 : ¬ addE n l x = 0 := by rw [e]; decide
      have d1 : addL n l x = [] := by unfold addL; rw [if_neg e0]
      have d2 : addN n l x = 0 := by unfold addN; rw [if_neg e0]
      have d3 : avg n l x = 0 := by unfold avg; rw [if_neg e0]
      have d4 : medV n l x = 0 := by unfold medV; rw [if_neg e0]
      simp [e, d1, d2, d3, d4, cnd]
    | true =>
      have hn := hc.1 hV
      cases hx : isV x with
      | false =>
        have e : addE n l x = 2 := by unfold addE; rw [if_pos hn, hx]; rfl
        have e0 : ¬ addE n l x = 0 := by rw [e]; decide
        have d1 : addL n l x = [] := by unfold addL; rw [if_neg e0]
        have d2 : addN n l x = 0 := by unfold addN; rw [if_neg e0]
        have d3 : avg n l x = 0 := by unfold avg; rw [if_neg e0]
        have d4 : medV n l x = 0 := by unfold medV; rw [if_neg e0]
        simp [e, d1, d2, d3, d4, cnd]
      | true =>
        have e : addE n l x = 0 := addE_zero.2 ⟨hn, hx⟩
        obtain ⟨b1, b2, b3⟩ := addL_len e
        have d2 : addN n l x = n := by unfold addN; rw [if_pos e]
        have d3 : avg n l x = lsum (addL n l x) / (addL n l x).length := by unfold avg; rw [if_pos e]
        have d4 : medV n l x = med (addL n l x) := by unfold medV; rw [if_pos e]
        have k1 : decide ((addL n l x).length ≤ 1000000) = true := by rw [decide_eq_true_eq]; omega
        have k2 : decide (1 ≤ (addL n l x).length) = true := by rw [decide_eq_true_eq]; omega
        have k3 : decide ((addL n l x).length ≤ 16) = true := by rw [decide_eq_true_eq]; omega
        simp only [e, d2, d3, d4, k1, k2, k3, b3, Bool.or_true, Bool.not_true, Bool.or_false, decide_true, Bool.and_true, cnd]
set_option maxHeartbeats 2000000 in
theorem winds2_ok : SoundEnt Try.prog winds2_e := by
  refine ent_of_ex (Γ := (conOf [awake_e, faverage_e, fmedian_e, rvwin_e, rvalue_e, lwindows_e, radded_e, raverage_e, rmedian_e])) (conOf_sound (scons awake_ok (scons faverage_ok (scons fmedian_ok (scons rvwin_ok (scons rvalue_ok (scons lwindows_ok (scons radded_ok (scons raverage_ok (scons rmedian_ok snil)))))))))) (by kernel_rfl) Try.func11 (by kernel_rfl) (by kernel_rfl) (fun args rows res h ho => ?_)
  change winds2_go args rows = some res at h
  unfold winds2_go at h
  split at h
  · simp only [Option.some.injEq] at h
    subst h
    rename_i q0_ q2_ q1_
    obtain ⟨p0, p1, p2, _⟩ := ho
    exact EX.of (winds2_tree q0_ q1_ q2_) (winds2_holds q0_ q1_ q2_ p0 p1 p2)
  · cases h
end Go.Proofs.Ytoflhcdhgkbdcaa

