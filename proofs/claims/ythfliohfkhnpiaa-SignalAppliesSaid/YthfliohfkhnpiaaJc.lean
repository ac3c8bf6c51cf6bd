/- Cams: the program's ValidCam. -/
import Derived.Test.YthfliohfkhnpiaaJb
namespace Go.Proofs.Ythfliohfkhnpiaa
set_option linter.unusedVariables false
set_option linter.unusedSimpArgs false
open Go.RowKit

def ascL : List Int → Bool
  | [] => true
  | [_] => true
  | a :: b :: l => decide (a ≤ b) && ascL (b :: l)
theorem ascL_drop : ∀ (c : List Int) (n : Nat), ascL c = true → ascL (c.drop n) = true
  | c, 0, h => h
  | [], n + 1, _ => rfl
  | [_], n + 1, _ => by simp [ascL]
  | a :: b :: l, n + 1, h => by
    simp only [ascL, Bool.and_eq_true] at h
    exact ascL_drop (b :: l) n h.2
def compare_res (x : Int) (y : Int) : CRes := ⟨[], .one (.cel (.int .i64 (if x < y then -1 else if y < x then 1 else 0))), []⟩
def compare_go : List TV → List RowA → List (List CV) → Option CRes := fun args rows caps =>
  match args, rows, caps with
  | [.cel (.int .i64 x), .cel (.int .i64 y)], [], [] => some (compare_res x y)
  | _, _, _ => none
def compare_e : Ent := ⟨111, [], compare_go⟩
set_option maxRecDepth 100000 in
theorem compare_tree (x : Int) (y : Int) : ((cnd (!(decide (x = x)))
  (cnd (!(decide (y = y)))
    ((0 : Int) = (if (x < y) then (-(1 : Int)) else (if (y < x) then (1 : Int) else (0 : Int))))
    ((-(1 : Int)) = (if (x < y) then (-(1 : Int)) else (if (y < x) then (1 : Int) else (0 : Int)))))
  (cnd (!(decide (y = y)))
    ((1 : Int) = (if (x < y) then (-(1 : Int)) else (if (y < x) then (1 : Int) else (0 : Int))))
    (cnd (decide (x < y))
      ((-(1 : Int)) = (if (x < y) then (-(1 : Int)) else (if (y < x) then (1 : Int) else (0 : Int))))
      (cnd (decide (y < x))
        ((1 : Int) = (if (x < y) then (-(1 : Int)) else (if (y < x) then (1 : Int) else (0 : Int))))
        ((0 : Int) = (if (x < y) then (-(1 : Int)) else (if (y < x) then (1 : Int) else (0 : Int))))))))) = EXD Try.prog (inlOf Try.prog [] [(118, Try.f118)] []) Try.f111 [.cel (.int .i64 x), .cel (.int .i64 y)] [] [] (compare_res x y) := by kernel_rfl
theorem compare_holds (x : Int) (y : Int)  : (cnd (!(decide (x = x)))
  (cnd (!(decide (y = y)))
    ((0 : Int) = (if (x < y) then (-(1 : Int)) else (if (y < x) then (1 : Int) else (0 : Int))))
    ((-(1 : Int)) = (if (x < y) then (-(1 : Int)) else (if (y < x) then (1 : Int) else (0 : Int)))))
  (cnd (!(decide (y = y)))
    ((1 : Int) = (if (x < y) then (-(1 : Int)) else (if (y < x) then (1 : Int) else (0 : Int))))
    (cnd (decide (x < y))
      ((-(1 : Int)) = (if (x < y) then (-(1 : Int)) else (if (y < x) then (1 : Int) else (0 : Int))))
      (cnd (decide (y < x))
        ((1 : Int) = (if (x < y) then (-(1 : Int)) else (if (y < x) then (1 : Int) else (0 : Int))))
        ((0 : Int) = (if (x < y) then (-(1 : Int)) else (if (y < x) then (1 : Int) else (0 : Int)))))))) := by
  simp only [decide_true, Bool.not_true, cnd]
  by_cases h1 : x < y
  · simp [cnd, h1]
  · by_cases h2 : y < x <;> simp [cnd, h1, h2]
set_option maxHeartbeats 2000000 in
theorem compare_ok : SoundEnt Try.prog compare_e := by
  refine ent_of_ex (Γ := (inlOf Try.prog [] [(118, Try.f118)] [])) (inlOf_sound snil (by kernel_rfl) ⟨⟨Try.func118, by kernel_rfl, by kernel_rfl⟩, trivial⟩ spnil) (by kernel_rfl) Try.func111 (by kernel_rfl) (by kernel_rfl) (fun args rows caps res h ho => ?_)
  change compare_go args rows caps = some res at h
  unfold compare_go at h
  split at h
  · simp only [Option.some.injEq] at h
    subst h
    rename_i q0_ q1_
    skip
    exact EX.of (compare_tree q0_ q1_) (compare_holds q0_ q1_)
  · cases h
def issorted_res (c : List Int) : CRes := ⟨[decide (c.length ≤ 8)], .one (.cel (.bool (ascL c))), []⟩
def issorted_go : List TV → List RowA → List (List CV) → Option CRes := fun args rows caps =>
  match args, rows, caps with
  | [.cel (.row 0), .cel (.fn 111)], [.ints .i64 c], [] => some (issorted_res c)
  | _, _, _ => none
def issorted_e : Ent := ⟨110, [.ints .i64 []], issorted_go⟩
def issorted_L1_F (c : List Int) (i : Int) : St := ⟨25, [], [(5, (.one (.cel (.int .i64 i)))), (4, (.one (.cel (.bool Bool.false)))), (0, (.one (.cel (.row 0)))), (1, (.one (.cel (.fn 111))))], [], [⟨(.ints .i64 c), none⟩], 0⟩
def issorted_L1_I (c : List Int) (i : Int) : Prop := (-1 ≤ i ∧ i ≤ (c.length : Int) - 1) ∧ (ascL (c.drop i.toNat) = true)
def issorted_L1_m (c : List Int) (i : Int) : Nat := i.toNat
def issorted_L1_N (c : List Int) (i' : Int) (st_ : St) : Prop := getI st_ 5 fun i => issorted_L1_I c i ∧ issorted_L1_m c i < issorted_L1_m c i' ∧ SubA st_ (issorted_L1_F c i)
def issorted_L1_E (c : List Int) (st_ : St) : Prop := getI st_ 5 fun i => issorted_L1_I c i ∧ SubA st_ (issorted_L1_F c i)
def issorted_L1_S1 (c : List Int) : St := ⟨25, [], [(5, (.one (.cel (.int .i64 (Go.IntKind.wrap Go.IntKind.i64 ((((List.length c) : Nat) : Int) - (1 : Int))))))), (8, (.one (.cel (.int .i64 (Go.IntKind.wrap Go.IntKind.i64 ((((List.length c) : Nat) : Int) - (1 : Int))))))), (7, (.one (.cel (.int .i64 (((List.length c) : Nat) : Int))))), (6, (.one (.cel (.row 0)))), (4, (.one (.cel (.bool Bool.false)))), (0, (.one (.cel (.row 0)))), (1, (.one (.cel (.fn 111))))], [], [⟨(.ints .i64 c), none⟩], 0⟩
def issorted_L1_T (c : List Int) (i : Int) : Prop := (cnd (decide ((0 : Int) < i))
  (cnd (decide ((0 : Int) ≤ i))
    (cnd (decide (i < (((List.length c) : Nat) : Int)))
      (cnd (decide ((0 : Int) ≤ (Go.IntKind.wrap Go.IntKind.i64 (i - (1 : Int)))))
        (cnd (decide ((Go.IntKind.wrap Go.IntKind.i64 (i - (1 : Int))) < (((List.length c) : Nat) : Int)))
          (cnd (decide ((if ((List.getD c (Int.toNat i) (0 : Int)) < (List.getD c (Int.toNat (Go.IntKind.wrap Go.IntKind.i64 (i - (1 : Int)))) (0 : Int))) then (-(1 : Int)) else (if ((List.getD c (Int.toNat (Go.IntKind.wrap Go.IntKind.i64 (i - (1 : Int)))) (0 : Int)) < (List.getD c (Int.toNat i) (0 : Int))) then (1 : Int) else (0 : Int))) < (0 : Int)))
            (Bool.false = (ascL c))
            ((issorted_L1_I c (Go.IntKind.wrap Go.IntKind.i64 (i - (1 : Int)))) ∧ (((issorted_L1_m c (Go.IntKind.wrap Go.IntKind.i64 (i - (1 : Int)))) < (issorted_L1_m c i)) ∧ (((Go.IntKind.wrap Go.IntKind.i64 (i - (1 : Int))) = (Go.IntKind.wrap Go.IntKind.i64 (i - (1 : Int)))) ∧ ((Bool.false = Bool.false) ∧ (True ∧ (True ∧ ((c = c) ∧ True))))))))
          False)
        False)
      False)
    False)
  (Bool.true = (ascL c)))
set_option maxRecDepth 100000 in
theorem issorted_L1_tree (c : List Int) (i : Int) : issorted_L1_T c i = ex Try.prog (conOf [compare_e]) (subC (bodyOf Try.f110) [1, 0, 1, 0, 0]) (nextE (issorted_L1_N c i) (kont Try.prog (conOf [compare_e]) (bodyOf Try.f110) [1, 0, 1, 0] (retPost Try.prog Try.f110 1 (issorted_res c)))) (issorted_L1_F c i) := by kernel_rfl
set_option maxRecDepth 100000 in
theorem issorted_L1_round (c : List Int) (i : Int) (p0 : (decide (c.length ≤ 8)) = true) (hI_L1 : issorted_L1_I c i) : issorted_L1_T c i := by
  obtain ⟨⟨a1, a2⟩, a3⟩ := hI_L1
  simp only [decide_eq_true_eq] at p0
  unfold issorted_L1_T
  rw [w64 (n := i - 1) (by omega) (by omega)]
  by_cases hi : 0 < i
  · rw [decide_eq_true hi, decide_eq_true (show 0 ≤ i by omega), decide_eq_true (show i < (c.length : Int) by omega), decide_eq_true (show 0 ≤ i - 1 by omega), decide_eq_true (show i - 1 < (c.length : Int) by omega)]
    have hd := drop_consI (c := c) (i := i) (by omega) (by omega)
    have hd2 := drop_consI (c := c) (i := i - 1) (by omega) (by omega)
    rw [show (i - 1).toNat + 1 = i.toNat by omega] at hd2
    have hA : ascL (c.drop (i - 1).toNat) = decide (c.getD (i - 1).toNat 0 ≤ c.getD i.toNat 0) := by
      rw [hd2, hd, ascL, ← hd, a3, Bool.and_true]
    by_cases hc : c.getD i.toNat 0 < c.getD (i - 1).toNat 0
    · rw [if_pos hc]
      show false = ascL c
      cases h : ascL c with
      | false => rfl
      | true =>
        have := ascL_drop c (i - 1).toNat h
        rw [hA, decide_eq_true_eq] at this
        omega
    · rw [if_neg hc, decide_eq_false (by split <;> omega)]
      refine ⟨⟨⟨by omega, by omega⟩, ?_⟩, ?_, by simp⟩
      · rw [hA, decide_eq_true_eq]; omega
      · unfold issorted_L1_m; omega
  · rw [decide_eq_false hi]
    rw [show i.toNat = 0 by omega, List.drop_zero] at a3
    exact a3.symm
set_option maxRecDepth 100000 in
theorem issorted_L1_entry1 (c : List Int) : (((issorted_L1_I c (Go.IntKind.wrap Go.IntKind.i64 ((((List.length c) : Nat) : Int) - (1 : Int)))) ∧ (((Go.IntKind.wrap Go.IntKind.i64 ((((List.length c) : Nat) : Int) - (1 : Int))) = (Go.IntKind.wrap Go.IntKind.i64 ((((List.length c) : Nat) : Int) - (1 : Int)))) ∧ ((Bool.false = Bool.false) ∧ (True ∧ (True ∧ ((c = c) ∧ True))))))) = issorted_L1_E c (issorted_L1_S1 c) := by kernel_rfl
theorem issorted_L1_1 (c : List Int) (p0 : (decide (c.length ≤ 8)) = true) (h : ((issorted_L1_I c (Go.IntKind.wrap Go.IntKind.i64 ((((List.length c) : Nat) : Int) - (1 : Int)))) ∧ (((Go.IntKind.wrap Go.IntKind.i64 ((((List.length c) : Nat) : Int) - (1 : Int))) = (Go.IntKind.wrap Go.IntKind.i64 ((((List.length c) : Nat) : Int) - (1 : Int)))) ∧ ((Bool.false = Bool.false) ∧ (True ∧ (True ∧ ((c = c) ∧ True))))))) : LoopP (ex Try.prog (conOf [compare_e]) (subC (bodyOf Try.f110) [1, 0, 1, 0, 0])) (kont Try.prog (conOf [compare_e]) (bodyOf Try.f110) [1, 0, 1, 0] (retPost Try.prog Try.f110 1 (issorted_res c))) (issorted_L1_S1 c) := by
  have hE : issorted_L1_E c (issorted_L1_S1 c) := Eq.mp (issorted_L1_entry1 c) h
  unfold issorted_L1_E at hE
  obtain ⟨i, hE⟩ := getI_of hE
  refine loop_of (α := (Int)) (fun xx_ => issorted_L1_F c xx_) (fun xx_ => issorted_L1_I c xx_) (fun xx_ => issorted_L1_m c xx_) (fun xx_ => issorted_L1_N c xx_) (fun xx_ => issorted_L1_T c xx_) (fun xx_ s_ h => ?_) ⟨i, hE⟩ (fun xx_ => issorted_L1_tree c xx_) (fun xx_ hI => issorted_L1_round c xx_ p0 hI)
  unfold issorted_L1_N at h
  obtain ⟨i, h⟩ := getI_of h
  exact ⟨i, h⟩
set_option maxRecDepth 100000 in
theorem issorted_tree (c : List Int) : ((LoopP (ex Try.prog (conOf [compare_e]) (subC (bodyOf Try.f110) [1, 0, 1, 0, 0])) (kont Try.prog (conOf [compare_e]) (bodyOf Try.f110) [1, 0, 1, 0] (retPost Try.prog Try.f110 1 (issorted_res c))) (issorted_L1_S1 c))) = EXD Try.prog (conOf [compare_e]) Try.f110 [.cel (.row 0), .cel (.fn 111)] [.ints .i64 c] [] (issorted_res c) := by kernel_rfl
theorem issorted_holds (c : List Int) (p0 : (decide (c.length ≤ 8)) = true) : (LoopP (ex Try.prog (conOf [compare_e]) (subC (bodyOf Try.f110) [1, 0, 1, 0, 0])) (kont Try.prog (conOf [compare_e]) (bodyOf Try.f110) [1, 0, 1, 0] (retPost Try.prog Try.f110 1 (issorted_res c))) (issorted_L1_S1 c)) := by
  simp only [decide_eq_true_eq] at p0
  have p0' : decide (c.length ≤ 8) = true := by simpa using p0
  have e := w64 (n := (c.length : Int) - 1) (by omega) (by omega)
  refine issorted_L1_1 c p0' ⟨⟨⟨by omega, by omega⟩, ?_⟩, by simp⟩
  rw [e]
  rcases c with _ | ⟨a, c⟩
  · rfl
  · rw [drop_consI (c := a :: c) (i := ((a :: c).length : Int) - 1) (by simp) (by omega), List.drop_eq_nil_of_le (by omega)]
    rfl
set_option maxHeartbeats 2000000 in
theorem issorted_ok : SoundEnt Try.prog issorted_e := by
  refine ent_of_ex (Γ := (conOf [compare_e])) (conOf_sound (scons compare_ok snil)) (by kernel_rfl) Try.func110 (by kernel_rfl) (by kernel_rfl) (fun args rows caps res h ho => ?_)
  change issorted_go args rows caps = some res at h
  unfold issorted_go at h
  split at h
  · simp only [Option.some.injEq] at h
    subst h
    rename_i q0_
    obtain ⟨p0, _⟩ := ho
    exact EX.of (issorted_tree q0_) (issorted_holds q0_ p0)
  · cases h
theorem camG_asc : ∀ {c : List Int}, camG c = true → ascL c = true
  | [], _ => rfl
  | [_], _ => rfl
  | a :: b :: l, h => by
    simp only [camG, Bool.and_eq_true, decide_eq_true_eq] at h
    simp only [ascL, Bool.and_eq_true, decide_eq_true_eq]
    exact ⟨by omega, camG_asc h.2⟩
def vcam_res (c : List Int) : CRes := ⟨[], .one (.cel (.bool (cValid c))), []⟩
def vcam_go : List TV → List RowA → List (List CV) → Option CRes := fun args rows caps =>
  match args, rows, caps with
  | [.agg [.row 0]], [.ints .i64 c], [] => some (vcam_res c)
  | _, _, _ => none
def vcam_e : Ent := ⟨75, [.ints .i64 []], vcam_go⟩
def vcam_L1_F (c : List Int) (i : Int) : St := ⟨71, [], [(26, (.one (.cel (.int .i64 i)))), (25, (.one (.cel (.int .i64 (((List.length c) : Nat) : Int))))), (24, (.one (.cel (.row 0)))), (2, (.one (.cel (.bool Bool.false)))), (1, (.one (.cel (.ptr 0 0))))], [[(.row 0)]], [⟨(.ints .i64 c), none⟩], 0⟩
def vcam_L1_I (c : List Int) (i : Int) : Prop := (0 ≤ i ∧ i ≤ c.length ∧ 1 ≤ c.length ∧ c.length ≤ 8) ∧ (camG c = camG (c.drop (i - 1).toNat)) ∧ (i = 0 ∨ camE (c.getD (i - 1).toNat 0) = true)
def vcam_L1_m (c : List Int) (i : Int) : Nat := (c.length - i).toNat
def vcam_L1_N (c : List Int) (i' : Int) (st_ : St) : Prop := getI st_ 26 fun i => vcam_L1_I c i ∧ vcam_L1_m c i < vcam_L1_m c i' ∧ SubA st_ (vcam_L1_F c i)
def vcam_L1_E (c : List Int) (st_ : St) : Prop := getI st_ 26 fun i => vcam_L1_I c i ∧ SubA st_ (vcam_L1_F c i)
def vcam_L1_S1 (c : List Int) : St := ⟨71, [17, 11], [(26, (.one (.cel (.int .i64 (0 : Int))))), (25, (.one (.cel (.int .i64 (((List.length c) : Nat) : Int))))), (24, (.one (.cel (.row 0)))), (23, (.one (.cel (.ptr 0 0)))), (22, (.one (.cel (.bool (((decide ((((List.length c) : Nat) : Int) < (1 : Int))) || (decide ((8 : Int) < (((List.length c) : Nat) : Int)))) || (!(ascL c))))))), (21, (.spec 17 Bool.false (.cel (.bool (!(ascL c)))))), (20, (.spec 17 Bool.false (.cel (.bool (ascL c))))), (19, (.spec 17 Bool.false (.cel (.row 0)))), (18, (.spec 17 Bool.false (.cel (.ptr 0 0)))), (17, (.one (.cel (.bool ((decide ((((List.length c) : Nat) : Int) < (1 : Int))) || (decide ((8 : Int) < (((List.length c) : Nat) : Int)))))))), (16, (.one (.cel (.bool ((decide ((((List.length c) : Nat) : Int) < (1 : Int))) || (decide ((8 : Int) < (((List.length c) : Nat) : Int)))))))), (15, (.spec 11 Bool.false (.cel (.bool (decide ((8 : Int) < (((List.length c) : Nat) : Int))))))), (14, (.spec 11 Bool.false (.cel (.int .i64 (((List.length c) : Nat) : Int))))), (13, (.spec 11 Bool.false (.cel (.row 0)))), (12, (.spec 11 Bool.false (.cel (.ptr 0 0)))), (11, (.one (.cel (.bool (decide ((((List.length c) : Nat) : Int) < (1 : Int))))))), (10, (.one (.cel (.bool (decide ((((List.length c) : Nat) : Int) < (1 : Int))))))), (9, (.one (.cel (.int .i64 (((List.length c) : Nat) : Int))))), (8, (.one (.cel (.row 0)))), (7, (.one (.cel (.ptr 0 0)))), (2, (.one (.cel (.bool Bool.false)))), (1, (.one (.cel (.ptr 0 0)))), (0, (.one (.agg [(.row 0)])))], [[(.row 0)]], [⟨(.ints .i64 c), none⟩], 0⟩
def vcam_L1_T (c : List Int) (i : Int) : Prop := (cnd (decide (i < (((List.length c) : Nat) : Int)))
  (cnd (decide ((0 : Int) ≤ i))
    (cnd (decide (i < (((List.length c) : Nat) : Int)))
      (cnd ((!(((decide ((List.getD c (Int.toNat i) (0 : Int)) < (0 : Int))) || (decide ((46080 : Int) ≤ (List.getD c (Int.toNat i) (0 : Int))))) == Bool.false)) || (decide ((23040 : Int) ≠ (0 : Int))))
        (cnd ((!((((decide ((List.getD c (Int.toNat i) (0 : Int)) < (0 : Int))) || (decide ((46080 : Int) ≤ (List.getD c (Int.toNat i) (0 : Int))))) || (decide ((Int.tmod (List.getD c (Int.toNat i) (0 : Int)) (23040 : Int)) < (1920 : Int)))) == Bool.false)) || (decide ((23040 : Int) ≠ (0 : Int))))
          (cnd ((!((((((decide ((List.getD c (Int.toNat i) (0 : Int)) < (0 : Int))) || (decide ((46080 : Int) ≤ (List.getD c (Int.toNat i) (0 : Int))))) || (decide ((Int.tmod (List.getD c (Int.toNat i) (0 : Int)) (23040 : Int)) < (1920 : Int)))) || (decide ((21120 : Int) < (Int.tmod (List.getD c (Int.toNat i) (0 : Int)) (23040 : Int))))) == Bool.false) && ((decide ((0 : Int) < i)) == Bool.true))) || (decide ((0 : Int) ≤ (Go.IntKind.wrap Go.IntKind.i64 (i - (1 : Int))))))
            (cnd ((!((((((decide ((List.getD c (Int.toNat i) (0 : Int)) < (0 : Int))) || (decide ((46080 : Int) ≤ (List.getD c (Int.toNat i) (0 : Int))))) || (decide ((Int.tmod (List.getD c (Int.toNat i) (0 : Int)) (23040 : Int)) < (1920 : Int)))) || (decide ((21120 : Int) < (Int.tmod (List.getD c (Int.toNat i) (0 : Int)) (23040 : Int))))) == Bool.false) && ((decide ((0 : Int) < i)) == Bool.true))) || (decide ((Go.IntKind.wrap Go.IntKind.i64 (i - (1 : Int))) < (((List.length c) : Nat) : Int))))
              (cnd (((((decide ((List.getD c (Int.toNat i) (0 : Int)) < (0 : Int))) || (decide ((46080 : Int) ≤ (List.getD c (Int.toNat i) (0 : Int))))) || (decide ((Int.tmod (List.getD c (Int.toNat i) (0 : Int)) (23040 : Int)) < (1920 : Int)))) || (decide ((21120 : Int) < (Int.tmod (List.getD c (Int.toNat i) (0 : Int)) (23040 : Int))))) || ((decide ((0 : Int) < i)) && (decide ((Go.IntKind.wrap Go.IntKind.i64 ((List.getD c (Int.toNat i) (0 : Int)) - (List.getD c (Int.toNat (Go.IntKind.wrap Go.IntKind.i64 (i - (1 : Int)))) (0 : Int)))) < (1920 : Int)))))
                (Bool.false = (cValid c))
                ((vcam_L1_I c (Go.IntKind.wrap Go.IntKind.i64 (i + (1 : Int)))) ∧ (((vcam_L1_m c (Go.IntKind.wrap Go.IntKind.i64 (i + (1 : Int)))) < (vcam_L1_m c i)) ∧ (((Go.IntKind.wrap Go.IntKind.i64 (i + (1 : Int))) = (Go.IntKind.wrap Go.IntKind.i64 (i + (1 : Int)))) ∧ (((((List.length c) : Nat) : Int) = (((List.length c) : Nat) : Int)) ∧ (True ∧ ((Bool.false = Bool.false) ∧ (True ∧ (True ∧ ((c = c) ∧ True))))))))))
              False)
            False)
          False)
        False)
      False)
    False)
  (cnd (decide ((List.length c) ≤ 8))
    ((!(decide ((hv c) = ((((List.length c) : Nat) : Int) - (hv c))))) = (cValid c))
    False))
set_option maxRecDepth 100000 in
theorem vcam_L1_tree (c : List Int) (i : Int) : vcam_L1_T c i = ex Try.prog (conOf [halves_e, issorted_e]) (subC (bodyOf Try.f75) [1, 1, 0, 1, 0, 0]) (nextE (vcam_L1_N c i) (kont Try.prog (conOf [halves_e, issorted_e]) (bodyOf Try.f75) [1, 1, 0, 1, 0] (retPost Try.prog Try.f75 1 (vcam_res c)))) (vcam_L1_F c i) := by kernel_rfl
set_option maxRecDepth 100000 in
theorem vcam_L1_round (c : List Int) (i : Int)  (hI_L1 : vcam_L1_I c i) : vcam_L1_T c i := by
  obtain ⟨⟨a1, a2, a3, a4⟩, a5, a6⟩ := hI_L1
  have hF : camG c = camG (c.drop i.toNat) → camE (c.getD i.toNat 0) = true → i < (c.length : Int) → vcam_L1_I c (i + 1) := fun h1 h2 h3 => ⟨⟨by omega, by omega, a3, a4⟩, by rw [show i + 1 - 1 = i by omega]; exact h1, .inr (by rw [show i + 1 - 1 = i by omega]; exact h2)⟩
  have hμ : i < (c.length : Int) → vcam_L1_m c (i + 1) < vcam_L1_m c i := fun h => by unfold vcam_L1_m; omega
  have hcv : cValid c = (camG c && !decide (hv c = c.length - hv c)) := by unfold cValid; rw [decide_eq_true a3, decide_eq_true a4]; rfl
  unfold vcam_L1_T
  by_cases hi : i < (c.length : Int)
  · have hd := drop_consI a1 hi
    have e23 : decide ((23040 : Int) ≠ 0) = true := by decide
    rw [decide_eq_true hi, decide_eq_true a1, e23, w64 (n := i + 1) (by omega) (by omega), w64 (n := i - 1) (by omega) (by omega), hcv]
    by_cases hx : 0 ≤ c.getD i.toNat 0
    · have hc4 : (((decide (c.getD i.toNat 0 < 0) || decide (46080 ≤ c.getD i.toNat 0)) || decide (c.getD i.toNat 0 % 23040 < 1920)) || decide (21120 < c.getD i.toNat 0 % 23040)) = !camE (c.getD i.toNat 0) := by
        rw [Bool.eq_iff_iff]; simp [camE]; try omega
      rw [tmod_pos hx, hc4]
      simp only [Bool.or_true, cnd]
      by_cases h0 : i = 0
      · subst h0
        cases hE : camE (c.getD (0 : Int).toNat 0) with
        | true => exact ⟨hF a5 hE hi, hμ hi, by simp⟩
        | false =>
          have : camG c = false := by
            rw [a5, show ((0 : Int) - 1).toNat = (0 : Int).toNat from rfl, hd]
            exact camG_head hE
          simp [cnd, this]
      · have hd2 := drop_consI (c := c) (i := i - 1) (by omega) (by omega)
        rw [show (i - 1).toNat + 1 = i.toNat by omega] at hd2
        have hy : camE (c.getD (i - 1).toNat 0) = true := by rcases a6 with h | h; exact absurd h h0; exact h
        have hG : camG c = (decide (c.getD (i - 1).toNat 0 + 1920 ≤ c.getD i.toNat 0) && camG (c.drop i.toNat)) := by
          rw [a5, hd2, hd, camG, hy]; rfl
        rw [decide_eq_true (show 0 ≤ i - 1 by omega), decide_eq_true (show i - 1 < (c.length : Int) by omega), decide_eq_true (show 0 < i by omega)]
        simp only [Bool.or_true, cnd]
        cases hE : camE (c.getD i.toNat 0) with
        | false =>
          have : camG (c.drop i.toNat) = false := by rw [hd]; exact camG_head hE
          rw [hG, this]
          simp [cnd]
        | true =>
          have q1 := camE_bd hE
          have q2 := camE_bd hy
          rw [w64 (n := c.getD i.toNat 0 - c.getD (i - 1).toNat 0) (by omega) (by omega)]
          by_cases hg : c.getD (i - 1).toNat 0 + 1920 ≤ c.getD i.toNat 0
          · rw [decide_eq_true hg, Bool.true_and] at hG
            rw [decide_eq_false (show ¬ c.getD i.toNat 0 - c.getD (i - 1).toNat 0 < 1920 by omega)]
            exact ⟨hF hG hE hi, hμ hi, by simp⟩
          · rw [hG, decide_eq_false hg, decide_eq_true (show c.getD i.toNat 0 - c.getD (i - 1).toNat 0 < 1920 by omega)]
            rfl
    · have hE : camE (c.getD i.toNat 0) = false := by unfold camE; rw [decide_eq_false hx]; rfl
      have hG : camG c = false := by
        by_cases h0 : i = 0
        · subst h0
          rw [a5, show ((0 : Int) - 1).toNat = (0 : Int).toNat from rfl, hd]
          exact camG_head hE
        · have hd2 := drop_consI (c := c) (i := i - 1) (by omega) (by omega)
          rw [show (i - 1).toNat + 1 = i.toNat by omega] at hd2
          rw [a5, hd2, hd, camG, camG_head hE, Bool.and_false]
      rw [hG, decide_eq_true (show c.getD i.toNat 0 < 0 by omega)]
      simp [cnd]
  · rw [decide_eq_false hi, decide_eq_true a4, hcv]
    have : camG c = true := by
      rw [a5]
      rcases a6 with h | h
      · omega
      · rw [List.drop_eq_getElem_cons (by omega), List.drop_eq_nil_of_le (by omega)]
        rw [List.getD_eq_getElem?_getD, List.getElem?_eq_getElem (by omega)] at h
        exact h
    rw [this]
    simp [cnd]
set_option maxRecDepth 100000 in
theorem vcam_L1_entry1 (c : List Int) : (((vcam_L1_I c (0 : Int)) ∧ (((0 : Int) = (0 : Int)) ∧ (((((List.length c) : Nat) : Int) = (((List.length c) : Nat) : Int)) ∧ (True ∧ ((Bool.false = Bool.false) ∧ (True ∧ (True ∧ ((c = c) ∧ True))))))))) = vcam_L1_E c (vcam_L1_S1 c) := by kernel_rfl
theorem vcam_L1_1 (c : List Int)  (h : ((vcam_L1_I c (0 : Int)) ∧ (((0 : Int) = (0 : Int)) ∧ (((((List.length c) : Nat) : Int) = (((List.length c) : Nat) : Int)) ∧ (True ∧ ((Bool.false = Bool.false) ∧ (True ∧ (True ∧ ((c = c) ∧ True))))))))) : LoopP (ex Try.prog (conOf [halves_e, issorted_e]) (subC (bodyOf Try.f75) [1, 1, 0, 1, 0, 0])) (kont Try.prog (conOf [halves_e, issorted_e]) (bodyOf Try.f75) [1, 1, 0, 1, 0] (retPost Try.prog Try.f75 1 (vcam_res c))) (vcam_L1_S1 c) := by
  have hE : vcam_L1_E c (vcam_L1_S1 c) := Eq.mp (vcam_L1_entry1 c) h
  unfold vcam_L1_E at hE
  obtain ⟨i, hE⟩ := getI_of hE
  refine loop_of (α := (Int)) (fun xx_ => vcam_L1_F c xx_) (fun xx_ => vcam_L1_I c xx_) (fun xx_ => vcam_L1_m c xx_) (fun xx_ => vcam_L1_N c xx_) (fun xx_ => vcam_L1_T c xx_) (fun xx_ s_ h => ?_) ⟨i, hE⟩ (fun xx_ => vcam_L1_tree c xx_) (fun xx_ hI => vcam_L1_round c xx_  hI)
  unfold vcam_L1_N at h
  obtain ⟨i, h⟩ := getI_of h
  exact ⟨i, h⟩
set_option maxRecDepth 100000 in
theorem vcam_tree (c : List Int) : ((cnd ((!(((decide ((((List.length c) : Nat) : Int) < (1 : Int))) || (decide ((8 : Int) < (((List.length c) : Nat) : Int)))) == Bool.false)) || (decide ((List.length c) ≤ 8)))
  (cnd (((decide ((((List.length c) : Nat) : Int) < (1 : Int))) || (decide ((8 : Int) < (((List.length c) : Nat) : Int)))) || (!(ascL c)))
    (Bool.false = (cValid c))
    (LoopP (ex Try.prog (conOf [halves_e, issorted_e]) (subC (bodyOf Try.f75) [1, 1, 0, 1, 0, 0])) (kont Try.prog (conOf [halves_e, issorted_e]) (bodyOf Try.f75) [1, 1, 0, 1, 0] (retPost Try.prog Try.f75 1 (vcam_res c))) (vcam_L1_S1 c)))
  False)) = EXD Try.prog (conOf [halves_e, issorted_e]) Try.f75 [.agg [.row 0]] [.ints .i64 c] [] (vcam_res c) := by kernel_rfl
theorem vcam_holds (c : List Int)  : (cnd ((!(((decide ((((List.length c) : Nat) : Int) < (1 : Int))) || (decide ((8 : Int) < (((List.length c) : Nat) : Int)))) == Bool.false)) || (decide ((List.length c) ≤ 8)))
  (cnd (((decide ((((List.length c) : Nat) : Int) < (1 : Int))) || (decide ((8 : Int) < (((List.length c) : Nat) : Int)))) || (!(ascL c)))
    (Bool.false = (cValid c))
    (LoopP (ex Try.prog (conOf [halves_e, issorted_e]) (subC (bodyOf Try.f75) [1, 1, 0, 1, 0, 0])) (kont Try.prog (conOf [halves_e, issorted_e]) (bodyOf Try.f75) [1, 1, 0, 1, 0] (retPost Try.prog Try.f75 1 (vcam_res c))) (vcam_L1_S1 c)))
  False) := by
  cases h : ((decide ((c.length : Int) < 1)) || (decide ((8 : Int) < c.length))) with
  | true =>
    simp only [Bool.or_eq_true, decide_eq_true_eq] at h
    have hc : cValid c = false := by
      unfold cValid
      rcases h with h | h
      · rw [decide_eq_false (show ¬ 1 ≤ c.length by omega)]; rfl
      · rw [decide_eq_false (show ¬ c.length ≤ 8 by omega)]; simp
    rw [hc]
    rfl
  | false =>
    simp only [Bool.or_eq_false_iff, decide_eq_false_iff_not] at h
    rw [decide_eq_true (show c.length ≤ 8 by omega)]
    cases ha : ascL c with
    | false =>
      have hc : cValid c = false := by
        cases hg : camG c with
        | false => unfold cValid; rw [hg]; simp
        | true => rw [camG_asc hg] at ha; cases ha
      rw [hc]
      rfl
    | true =>
      exact vcam_L1_1 c ⟨⟨⟨by omega, by omega, by omega, by omega⟩, by simp, .inl rfl⟩, by simp⟩
set_option maxHeartbeats 2000000 in
theorem vcam_ok : SoundEnt Try.prog vcam_e := by
  refine ent_of_ex (Γ := (conOf [halves_e, issorted_e])) (conOf_sound (scons halves_ok (scons issorted_ok snil))) (by kernel_rfl) Try.func75 (by kernel_rfl) (by kernel_rfl) (fun args rows caps res h ho => ?_)
  change vcam_go args rows caps = some res at h
  unfold vcam_go at h
  split at h
  · simp only [Option.some.injEq] at h
    subst h
    rename_i q0_
    skip
    exact EX.of (vcam_tree q0_) (vcam_holds q0_)
  · cases h
end Go.Proofs.Ythfliohfkhnpiaa

