/- The crank's edges, however many. -/
import Derived.Test.YthfliohfkhnpiaaJo
namespace Go.Proofs.Ythfliohfkhnpiaa
set_option linter.unusedVariables false
set_option linter.unusedSimpArgs false
open Go.RowKit

/-- There are more edges than a list may have. -/
def fulB (T M a b : Int) : Bool := decide ((edg T M 1001 (nxA T M a) b).length = 1001)
theorem edg_le {T M : Int} : ∀ (n : Nat) (p b : Int), (edg T M n p b).length ≤ n
  | 0, _, _ => by simp [edg]
  | n + 1, p, b => by
    rw [edg]
    split
    · have := edg_le (T := T) (M := M) n (nxA T M p) b
      simp only [List.length_cons]
      omega
    · simp
theorem edg_more {T M : Int} : ∀ (n : Nat) (p b : Int), (edg T M (n + 1) p b).length ≤ n → edg T M n p b = edg T M (n + 1) p b
  | 0, p, b, h => by
    rw [List.eq_nil_of_length_eq_zero (l := edg T M (0 + 1) p b) (by omega)]
    rfl
  | n + 1, p, b, h => by
    rw [edg] at h
    rw [edg, edg]
    by_cases hp : p ≤ b
    · rw [if_pos hp] at h
      rw [if_pos hp, if_pos hp, edg_more n (nxA T M p) b (by simpa using h)]
    · rw [if_neg hp, if_neg hp]
theorem edg_end {T M : Int} (hw : wValid T M = true) : ∀ (n : Nat) (p b : Int), 0 ≤ p → (edg T M n p b).length < n → b < p + (n : Int) * 23040
  | 0, _, _, _, h => by omega
  | n + 1, p, b, h0, h => by
    rw [edg] at h
    by_cases hp : p ≤ b
    · rw [if_pos hp] at h
      obtain ⟨n1, n2, _⟩ := nx_bd hw h0
      have := edg_end hw n (nxA T M p) b (by omega) (by simpa using h)
      omega
    · omega
theorem ful_no {T M a b : Int} (h : fulB T M a b = false) : edg T M 1001 (nxA T M a) b = eL T M a b ∧ (eL T M a b).length ≤ 1000 := by
  unfold fulB at h
  simp only [decide_eq_false_iff_not] at h
  have h0 : (edg T M (1000 + 1) (nxA T M a) b).length ≠ 1001 := h
  have h1 := edg_le (T := T) (M := M) (1000 + 1) (nxA T M a) b
  have h2 := edg_more (T := T) (M := M) 1000 (nxA T M a) b (by omega)
  exact ⟨h2.symm, edg_le 1000 _ _⟩
def collectG_res (a : Int) (b : Int) (T : Int) (M : Int) : CRes := ⟨[wValid T M, isT a && isT b, decide (a ≤ b)], .tup [.cel (.row 0), .cel (.int .i64 (if fulB T M a b then 5 else 0))], [.ints .i64 (if fulB T M a b then [] else eL T M a b)]⟩
def collectG_go : List TV → List RowA → List (List CV) → Option CRes := fun args rows caps =>
  match args, rows, caps with
  | [.cel (.int .i64 a), .cel (.int .i64 b), .cel (.clo 68 [0])], [], [[.int .i64 T, .int .i64 M]] => some (collectG_res a b T M)
  | _, _, _ => none
def collectG_e : Ent := ⟨67, [], collectG_go⟩
def collectG_L1_F (a : Int) (b : Int) (T : Int) (M : Int) (p : Int) (l : List Int) : St := ⟨40, [], [(9, (.one (.cel (.int .i64 p)))), (8, (.one (.cel (.row 0)))), (7, (.one (.cel (.int .i64 (0 : Int))))), (6, (.one (.cel .nilS))), (1, (.one (.cel (.int .i64 b)))), (2, (.one (.cel (.clo 68 [0]))))], [[(.int .i64 T), (.int .i64 M)]], [⟨(.ints .i64 l), some 3⟩], 1⟩
def collectG_L1_I (a : Int) (b : Int) (T : Int) (M : Int) (p : Int) (l : List Int) : Prop := (isE T M p ∧ a + 1 ≤ p ∧ 0 ≤ a) ∧ (l.length ≤ 1000) ∧ (l ++ edg T M (1001 - l.length) p b = edg T M 1001 (nxA T M a) b)
def collectG_L1_m (a : Int) (b : Int) (T : Int) (M : Int) (p : Int) (l : List Int) : Nat := (b + 1 - p).toNat
def collectG_L1_N (a : Int) (b : Int) (T : Int) (M : Int) (p' : Int) (l' : List Int) (st_ : St) : Prop := getI st_ 9 fun p => getR st_ 8 fun l => collectG_L1_I a b T M p l ∧ collectG_L1_m a b T M p l < collectG_L1_m a b T M p' l' ∧ SubA st_ (collectG_L1_F a b T M p l)
def collectG_L1_E (a : Int) (b : Int) (T : Int) (M : Int) (st_ : St) : Prop := getI st_ 9 fun p => getR st_ 8 fun l => collectG_L1_I a b T M p l ∧ SubA st_ (collectG_L1_F a b T M p l)
def collectG_L1_S1 (a : Int) (b : Int) (T : Int) (M : Int) : St := ⟨40, [18, 13], [(9, (.one (.cel (.int .i64 (nxA T M a))))), (25, (.one (.cel (.int .i64 (nxA T M a))))), (24, (.one (.cel (.int .i64 a)))), (23, (.one (.cel (.clo 68 [0])))), (8, (.one (.cel .nilS))), (22, (.one (.cel (.bool (((!(isT a)) || (!(isT b))) || (decide (b < a))))))), (21, (.spec 18 Bool.false (.cel (.bool (decide (b < a)))))), (20, (.spec 18 Bool.false (.cel (.int .i64 b)))), (19, (.spec 18 Bool.false (.cel (.int .i64 a)))), (18, (.one (.cel (.bool ((!(isT a)) || (!(isT b))))))), (17, (.one (.cel (.bool ((!(isT a)) || (!(isT b))))))), (16, (.spec 13 Bool.false (.cel (.bool (!(isT b)))))), (15, (.spec 13 Bool.false (.cel (.bool (isT b))))), (14, (.spec 13 Bool.false (.cel (.int .i64 b)))), (13, (.one (.cel (.bool (!(isT a)))))), (12, (.one (.cel (.bool (!(isT a)))))), (11, (.one (.cel (.bool (isT a))))), (10, (.one (.cel (.int .i64 a)))), (7, (.one (.cel (.int .i64 (0 : Int))))), (6, (.one (.cel .nilS))), (0, (.one (.cel (.int .i64 a)))), (1, (.one (.cel (.int .i64 b)))), (2, (.one (.cel (.clo 68 [0]))))], [[(.int .i64 T), (.int .i64 M)]], [], 1⟩
def collectG_L1_T (a : Int) (b : Int) (T : Int) (M : Int) (p : Int) (l : List Int) : Prop := (cnd (decide (p ≤ b))
  (cnd (decide ((((List.length l) : Nat) : Int) = (1000 : Int)))
    ((True ∧ ((5 : Int) = (if ((fulB T M a b) = Bool.true) then (5 : Int) else (0 : Int)))) ∧ (((if ((fulB T M a b) = Bool.true) then ([] : List Int) else (eL T M a b)) = ([] : List Int)) ∧ True))
    (cnd (decide ((List.length (l ++ [p])) ≤ 4294967296))
      (cnd (wValid T M)
        (cnd (isT p)
          ((collectG_L1_I a b T M (nxA T M p) (l ++ [p])) ∧ (((collectG_L1_m a b T M (nxA T M p) (l ++ [p])) < (collectG_L1_m a b T M p l)) ∧ (((nxA T M p) = (nxA T M p)) ∧ (True ∧ (((0 : Int) = (0 : Int)) ∧ (True ∧ ((b = b) ∧ (True ∧ (((T = T) ∧ (M = M)) ∧ (((l ++ [p]) = (l ++ [p])) ∧ True))))))))))
          False)
        False)
      False))
  ((True ∧ ((0 : Int) = (if ((fulB T M a b) = Bool.true) then (5 : Int) else (0 : Int)))) ∧ ((l = (if ((fulB T M a b) = Bool.true) then ([] : List Int) else (eL T M a b))) ∧ True)))
set_option maxRecDepth 100000 in
theorem collectG_L1_tree (a : Int) (b : Int) (T : Int) (M : Int) (p : Int) (l : List Int) : collectG_L1_T a b T M p l = ex Try.prog (conOf [wposition_e, bet1_e]) (subC (bodyOf Try.f67) [1, 1, 1, 0, 1, 0, 0]) (nextE (collectG_L1_N a b T M p l) (kont Try.prog (conOf [wposition_e, bet1_e]) (bodyOf Try.f67) [1, 1, 1, 0, 1, 0] (retPost Try.prog Try.f67 0 (collectG_res a b T M)))) (collectG_L1_F a b T M p l) := by kernel_rfl
set_option maxRecDepth 100000 in
theorem collectG_L1_round (a : Int) (b : Int) (T : Int) (M : Int) (p : Int) (l : List Int) (p0 : (wValid T M) = true) (p1 : (isT a && isT b) = true) (p2 : (decide (a ≤ b)) = true) (hI_L1 : collectG_L1_I a b T M p l) : collectG_L1_T a b T M p l := by
  obtain ⟨⟨⟨a1, a1'⟩, a2, a0⟩, a4, a3⟩ := hI_L1
  simp only [Bool.and_eq_true, isT_iff, decide_eq_true_eq] at p1 p2
  unfold collectG_L1_T
  by_cases hp : p ≤ b
  · have hlen : (l ++ [p]).length = l.length + 1 := by simp
    obtain ⟨n1, n2, n3, n4, _⟩ := nx_bd (T := T) (M := M) p0 a1
    have hpT : isT p = true := isT_iff.2 (by omega)
    rw [show 1001 - l.length = (1000 - l.length) + 1 by omega, edg, if_pos hp] at a3
    by_cases hl : (l.length : Int) = 1000
    · rw [show 1000 - l.length = 0 by omega, edg] at a3
      have hful : fulB T M a b = true := by
        unfold fulB
        rw [← a3, hlen, decide_eq_true_eq]
        omega
      rw [decide_eq_true hp, decide_eq_true hl, hful]
      simp [cnd]
    · rw [decide_eq_true hp, decide_eq_false hl, decide_eq_true (show (l ++ [p]).length ≤ 4294967296 by omega), p0, hpT]
      refine ⟨⟨⟨n3, ?_, a0⟩, by omega, ?_⟩, ?_, by simp⟩
      · omega
      · rw [← a3, hlen, show 1001 - (l.length + 1) = 1000 - l.length by omega, List.append_assoc]
        rfl
      · unfold collectG_L1_m; omega
  · rw [decide_eq_false hp]
    have : edg T M (1001 - l.length) p b = [] := by
      cases 1001 - l.length with
      | zero => rfl
      | succ n => rw [edg, if_neg hp]
    rw [this, List.append_nil] at a3
    have hful : fulB T M a b = false := by
      unfold fulB
      rw [← a3, decide_eq_false_iff_not]
      omega
    rw [(ful_no hful).1] at a3
    rw [hful]
    exact ⟨⟨trivial, rfl⟩, a3, trivial⟩
set_option maxRecDepth 100000 in
theorem collectG_L1_entry1 (a : Int) (b : Int) (T : Int) (M : Int) : (((collectG_L1_I a b T M (nxA T M a) ([] : List Int)) ∧ (((nxA T M a) = (nxA T M a)) ∧ (True ∧ (((0 : Int) = (0 : Int)) ∧ (True ∧ ((b = b) ∧ (True ∧ (((T = T) ∧ (M = M)) ∧ ((([] : List Int) = ([] : List Int)) ∧ True)))))))))) = collectG_L1_E a b T M (collectG_L1_S1 a b T M) := by kernel_rfl
theorem collectG_L1_1 (a : Int) (b : Int) (T : Int) (M : Int) (p0 : (wValid T M) = true) (p1 : (isT a && isT b) = true) (p2 : (decide (a ≤ b)) = true) (h : ((collectG_L1_I a b T M (nxA T M a) ([] : List Int)) ∧ (((nxA T M a) = (nxA T M a)) ∧ (True ∧ (((0 : Int) = (0 : Int)) ∧ (True ∧ ((b = b) ∧ (True ∧ (((T = T) ∧ (M = M)) ∧ ((([] : List Int) = ([] : List Int)) ∧ True)))))))))) : LoopP (ex Try.prog (conOf [wposition_e, bet1_e]) (subC (bodyOf Try.f67) [1, 1, 1, 0, 1, 0, 0])) (kont Try.prog (conOf [wposition_e, bet1_e]) (bodyOf Try.f67) [1, 1, 1, 0, 1, 0] (retPost Try.prog Try.f67 0 (collectG_res a b T M))) (collectG_L1_S1 a b T M) := by
  have hE : collectG_L1_E a b T M (collectG_L1_S1 a b T M) := Eq.mp (collectG_L1_entry1 a b T M) h
  unfold collectG_L1_E at hE
  obtain ⟨p, hE⟩ := getI_of hE
  obtain ⟨l, hE⟩ := getR_of hE
  refine loop_of (α := (Int) × (List Int)) (fun xx_ => collectG_L1_F a b T M xx_.1 xx_.2) (fun xx_ => collectG_L1_I a b T M xx_.1 xx_.2) (fun xx_ => collectG_L1_m a b T M xx_.1 xx_.2) (fun xx_ => collectG_L1_N a b T M xx_.1 xx_.2) (fun xx_ => collectG_L1_T a b T M xx_.1 xx_.2) (fun xx_ s_ h => ?_) ⟨⟨p, l⟩, hE⟩ (fun xx_ => collectG_L1_tree a b T M xx_.1 xx_.2) (fun xx_ hI => collectG_L1_round a b T M xx_.1 xx_.2 p0 p1 p2 hI)
  unfold collectG_L1_N at h
  obtain ⟨p, h⟩ := getI_of h
  obtain ⟨l, h⟩ := getR_of h
  exact ⟨⟨p, l⟩, h⟩
set_option maxRecDepth 100000 in
theorem collectG_tree (a : Int) (b : Int) (T : Int) (M : Int) : ((cnd (((!(isT a)) || (!(isT b))) || (decide (b < a)))
  ((True ∧ ((2 : Int) = (if ((fulB T M a b) = Bool.true) then (5 : Int) else (0 : Int)))) ∧ (((if ((fulB T M a b) = Bool.true) then ([] : List Int) else (eL T M a b)) = ([] : List Int)) ∧ True))
  (cnd (wValid T M)
    (cnd (isT a)
      (LoopP (ex Try.prog (conOf [wposition_e, bet1_e]) (subC (bodyOf Try.f67) [1, 1, 1, 0, 1, 0, 0])) (kont Try.prog (conOf [wposition_e, bet1_e]) (bodyOf Try.f67) [1, 1, 1, 0, 1, 0] (retPost Try.prog Try.f67 0 (collectG_res a b T M))) (collectG_L1_S1 a b T M))
      False)
    False))) = EXD Try.prog (conOf [wposition_e, bet1_e]) Try.f67 [.cel (.int .i64 a), .cel (.int .i64 b), .cel (.clo 68 [0])] [] [[.int .i64 T, .int .i64 M]] (collectG_res a b T M) := by kernel_rfl
theorem collectG_holds (a : Int) (b : Int) (T : Int) (M : Int) (p0 : (wValid T M) = true) (p1 : (isT a && isT b) = true) (p2 : (decide (a ≤ b)) = true) : (cnd (((!(isT a)) || (!(isT b))) || (decide (b < a)))
  ((True ∧ ((2 : Int) = (if ((fulB T M a b) = Bool.true) then (5 : Int) else (0 : Int)))) ∧ (((if ((fulB T M a b) = Bool.true) then ([] : List Int) else (eL T M a b)) = ([] : List Int)) ∧ True))
  (cnd (wValid T M)
    (cnd (isT a)
      (LoopP (ex Try.prog (conOf [wposition_e, bet1_e]) (subC (bodyOf Try.f67) [1, 1, 1, 0, 1, 0, 0])) (kont Try.prog (conOf [wposition_e, bet1_e]) (bodyOf Try.f67) [1, 1, 1, 0, 1, 0] (retPost Try.prog Try.f67 0 (collectG_res a b T M))) (collectG_L1_S1 a b T M))
      False)
    False)) := by
  have q1 := p1; have q2 := p2
  simp only [Bool.and_eq_true, decide_eq_true_eq] at p1 p2
  have h1 := isT_iff.1 p1.1
  rw [p1.1, p1.2, decide_eq_false (show ¬ b < a by omega), p0]
  obtain ⟨n1, n2, n3, n4, _⟩ := nx_bd (T := T) (M := M) p0 h1.1
  exact collectG_L1_1 a b T M p0 q1 q2 ⟨⟨⟨n3, n1, h1.1⟩, by simp, by simp⟩, by simp⟩
set_option maxHeartbeats 2000000 in
theorem collectG_ok : SoundEnt Try.prog collectG_e := by
  refine ent_of_ex (Γ := (conOf [wposition_e, bet1_e])) (conOf_sound (scons wposition_ok (scons bet1_ok snil))) (by kernel_rfl) Try.func67 (by kernel_rfl) (by kernel_rfl) (fun args rows caps res h ho => ?_)
  change collectG_go args rows caps = some res at h
  unfold collectG_go at h
  split at h
  · simp only [Option.some.injEq] at h
    subst h
    rename_i q0_ q1_ q2_ q3_
    obtain ⟨p0, p1, p2, _⟩ := ho
    exact EX.of (collectG_tree q0_ q1_ q2_ q3_) (collectG_holds q0_ q1_ q2_ q3_ p0 p1 p2)
  · cases h
def betweenG_res (T : Int) (M : Int) (a : Int) (b : Int) : CRes := ⟨[isT a && isT b, decide (a ≤ b)], .tup [.cel (.row 0), .cel (.int .i64 (if wValid T M then (if fulB T M a b then 5 else 0) else 1))], [.ints .i64 (if wValid T M then (if fulB T M a b then [] else eL T M a b) else [])]⟩
def betweenG_go : List TV → List RowA → List (List CV) → Option CRes := fun args rows caps =>
  match args, rows, caps with
  | [.agg [.int .i64 T, .int .i64 M], .cel (.int .i64 a), .cel (.int .i64 b)], [], [] => some (betweenG_res T M a b)
  | _, _, _ => none
def betweenG_e : Ent := ⟨25, [], betweenG_go⟩
set_option maxRecDepth 100000 in
theorem betweenG_tree (T : Int) (M : Int) (a : Int) (b : Int) : ((cnd (!(wValid T M))
  ((True ∧ ((1 : Int) = (if ((wValid T M) = Bool.true) then (if ((fulB T M a b) = Bool.true) then (5 : Int) else (0 : Int)) else (1 : Int)))) ∧ (((if ((wValid T M) = Bool.true) then (if ((fulB T M a b) = Bool.true) then ([] : List Int) else (eL T M a b)) else ([] : List Int)) = ([] : List Int)) ∧ True))
  (cnd (wValid T M)
    (cnd ((isT a) && (isT b))
      (cnd (decide (a ≤ b))
        ((True ∧ ((if ((fulB T M a b) = Bool.true) then (5 : Int) else (0 : Int)) = (if ((wValid T M) = Bool.true) then (if ((fulB T M a b) = Bool.true) then (5 : Int) else (0 : Int)) else (1 : Int)))) ∧ (((if ((fulB T M a b) = Bool.true) then ([] : List Int) else (eL T M a b)) = (if ((wValid T M) = Bool.true) then (if ((fulB T M a b) = Bool.true) then ([] : List Int) else (eL T M a b)) else ([] : List Int))) ∧ True))
        False)
      False)
    False))) = EXD Try.prog (conOf [wvalid_e, collectG_e]) Try.f25 [.agg [.int .i64 T, .int .i64 M], .cel (.int .i64 a), .cel (.int .i64 b)] [] [] (betweenG_res T M a b) := by kernel_rfl
theorem betweenG_holds (T : Int) (M : Int) (a : Int) (b : Int) (p0 : (isT a && isT b) = true) (p1 : (decide (a ≤ b)) = true) : (cnd (!(wValid T M))
  ((True ∧ ((1 : Int) = (if ((wValid T M) = Bool.true) then (if ((fulB T M a b) = Bool.true) then (5 : Int) else (0 : Int)) else (1 : Int)))) ∧ (((if ((wValid T M) = Bool.true) then (if ((fulB T M a b) = Bool.true) then ([] : List Int) else (eL T M a b)) else ([] : List Int)) = ([] : List Int)) ∧ True))
  (cnd (wValid T M)
    (cnd ((isT a) && (isT b))
      (cnd (decide (a ≤ b))
        ((True ∧ ((if ((fulB T M a b) = Bool.true) then (5 : Int) else (0 : Int)) = (if ((wValid T M) = Bool.true) then (if ((fulB T M a b) = Bool.true) then (5 : Int) else (0 : Int)) else (1 : Int)))) ∧ (((if ((fulB T M a b) = Bool.true) then ([] : List Int) else (eL T M a b)) = (if ((wValid T M) = Bool.true) then (if ((fulB T M a b) = Bool.true) then ([] : List Int) else (eL T M a b)) else ([] : List Int))) ∧ True))
        False)
      False)
    False)) := by
  rw [p0, p1]
  cases hw : wValid T M <;> simp [cnd]
set_option maxHeartbeats 2000000 in
theorem betweenG_ok : SoundEnt Try.prog betweenG_e := by
  refine ent_of_ex (Γ := (conOf [wvalid_e, collectG_e])) (conOf_sound (scons wvalid_ok (scons collectG_ok snil))) (by kernel_rfl) Try.func25 (by kernel_rfl) (by kernel_rfl) (fun args rows caps res h ho => ?_)
  change betweenG_go args rows caps = some res at h
  unfold betweenG_go at h
  split at h
  · simp only [Option.some.injEq] at h
    subst h
    rename_i q0_ q1_ q2_ q3_
    obtain ⟨p0, p1, _⟩ := ho
    exact EX.of (betweenG_tree q0_ q1_ q2_ q3_) (betweenG_holds q0_ q1_ q2_ q3_ p0 p1)
  · cases h
def crank1G_res (a : Int) (b : Int) (T : Int) (M : Int) : CRes := ⟨[isT a && isT b, decide (a ≤ b)], .tup [.cel (.row 0), .cel (.int .i64 (if wValid T M then (if fulB T M a b then 5 else 0) else 1))], [.ints .i64 (if wValid T M then (if fulB T M a b then [] else eL T M a b) else [])]⟩
def crank1G_go : List TV → List RowA → List (List CV) → Option CRes := fun args rows caps =>
  match args, rows, caps with
  | [.cel (.int .i64 a), .cel (.int .i64 b), .cel (.ptr 0 0)], [], [[.int .i64 T, .int .i64 M]] => some (crank1G_res a b T M)
  | _, _, _ => none
def crank1G_e : Ent := ⟨92, [], crank1G_go⟩
set_option maxRecDepth 100000 in
theorem crank1G_tree (a : Int) (b : Int) (T : Int) (M : Int) : ((cnd ((isT a) && (isT b))
  (cnd (decide (a ≤ b))
    ((True ∧ ((if ((wValid T M) = Bool.true) then (if ((fulB T M a b) = Bool.true) then (5 : Int) else (0 : Int)) else (1 : Int)) = (if ((wValid T M) = Bool.true) then (if ((fulB T M a b) = Bool.true) then (5 : Int) else (0 : Int)) else (1 : Int)))) ∧ (((if ((wValid T M) = Bool.true) then (if ((fulB T M a b) = Bool.true) then ([] : List Int) else (eL T M a b)) else ([] : List Int)) = (if ((wValid T M) = Bool.true) then (if ((fulB T M a b) = Bool.true) then ([] : List Int) else (eL T M a b)) else ([] : List Int))) ∧ True))
    False)
  False)) = EXD Try.prog (conOf [betweenG_e]) Try.f92 [.cel (.int .i64 a), .cel (.int .i64 b), .cel (.ptr 0 0)] [] [[.int .i64 T, .int .i64 M]] (crank1G_res a b T M) := by kernel_rfl
theorem crank1G_holds (a : Int) (b : Int) (T : Int) (M : Int) (p0 : (isT a && isT b) = true) (p1 : (decide (a ≤ b)) = true) : (cnd ((isT a) && (isT b))
  (cnd (decide (a ≤ b))
    ((True ∧ ((if ((wValid T M) = Bool.true) then (if ((fulB T M a b) = Bool.true) then (5 : Int) else (0 : Int)) else (1 : Int)) = (if ((wValid T M) = Bool.true) then (if ((fulB T M a b) = Bool.true) then (5 : Int) else (0 : Int)) else (1 : Int)))) ∧ (((if ((wValid T M) = Bool.true) then (if ((fulB T M a b) = Bool.true) then ([] : List Int) else (eL T M a b)) else ([] : List Int)) = (if ((wValid T M) = Bool.true) then (if ((fulB T M a b) = Bool.true) then ([] : List Int) else (eL T M a b)) else ([] : List Int))) ∧ True))
    False)
  False) := by
  rw [p0, p1]
  simp [cnd]
set_option maxHeartbeats 2000000 in
theorem crank1G_ok : SoundEnt Try.prog crank1G_e := by
  refine ent_of_ex (Γ := (conOf [betweenG_e])) (conOf_sound (scons betweenG_ok snil)) (by kernel_rfl) Try.func92 (by kernel_rfl) (by kernel_rfl) (fun args rows caps res h ho => ?_)
  change crank1G_go args rows caps = some res at h
  unfold crank1G_go at h
  split at h
  · simp only [Option.some.injEq] at h
    subst h
    rename_i q0_ q1_ q2_ q3_
    obtain ⟨p0, p1, _⟩ := ho
    exact EX.of (crank1G_tree q0_ q1_ q2_ q3_) (crank1G_holds q0_ q1_ q2_ q3_ p0 p1)
  · cases h
def ePos (s : Int) (l : List (List Int)) (e : Int) : Int := gmin (posOf s l e) 1099511627776
def crG (T M s : Int) (l : List (List Int)) (e : Int) : Int := if crE (wValid T M) s l e = 0 then (if fulB T M s (ePos s l e) then 5 else 0) else crE (wValid T M) s l e
def cpG (T M s : Int) (l : List (List Int)) (e : Int) : List Int := if crG T M s l e = 0 then eL T M s (posOf s l e) else []
def ctG (T M s : Int) (l : List (List Int)) (e : Int) : List Int := (cpG T M s l e).map fun p => (tmOf s l p).1
/-- What is known of the crank's positions, however many. -/
theorem cr_factsG {T M s : Int} {l : List (List Int)} {e : Int} (h : crG T M s l e = 0) :
    wValid T M = true ∧ mValid s l = true ∧ (0 ≤ e ∧ e ≤ 1099511627776) ∧ (0 ≤ s ∧ s < 46080) ∧ mErr s l e = 0 ∧ posOf s l e = s + way e l / 65536 ∧ s ≤ posOf s l e ∧ (posOf s l e ≤ s + 23100000 ∧ (eL T M s (posOf s l e)).length ≤ 1000 ∧ ePos s l e = posOf s l e ∧ fulB T M s (posOf s l e) = false) ∧
    ∀ x ∈ eL T M s (posOf s l e), s + 1 ≤ x ∧ x ≤ posOf s l e ∧ (tmOf s l x).2 = 0 ∧ 0 ≤ (tmOf s l x).1 ∧ (tmOf s l x).1 ≤ e := by
  have hz : crE (wValid T M) s l e = 0 := by
    unfold crG at h
    by_cases hz : crE (wValid T M) s l e = 0
    · exact hz
    · rw [if_neg hz] at h; exact h
  have hful : fulB T M s (ePos s l e) = false := by
    unfold crG at h
    rw [if_pos hz] at h
    cases hh : fulB T M s (ePos s l e) with
    | false => rfl
    | true => rw [hh] at h; simp at h
  obtain ⟨h1, h2, h3⟩ := crE_zero.1 hz
  have hm : mErr s l e = 0 := mErr_zero.2 ⟨h2, h3⟩
  have hp : posOf s l e = s + way e l / 65536 := by unfold posOf; rw [if_pos hm]
  have hs := (mV_iff.1 h2).1
  have hw := way_bd l 0 e (mV_iff.1 h2).2.2 h3.1
  obtain ⟨n1, n2, n3, n4, _⟩ := nx_bd (T := T) (M := M) h1 hs.1
  have hb : ePos s l e = posOf s l e ∧ posOf s l e ≤ s + 23100000 := by
    obtain ⟨g1, g2⟩ := ful_no hful
    have g3 := edg_end h1 1001 (nxA T M s) (ePos s l e) (by omega) (by rw [g1]; omega)
    have g4 : ePos s l e = if (1099511627776 : Int) < posOf s l e then 1099511627776 else posOf s l e := rfl
    rw [g4] at g3 ⊢
    split at g3
    · omega
    · rename_i hn
      rw [if_neg hn]
      omega
  rw [hb.1] at hful
  refine ⟨h1, h2, h3, hs, hm, hp, by omega, ⟨hb.2, (ful_no hful).2, hb.1, hful⟩, fun x hx => ?_⟩
  obtain ⟨g1, g2, g3⟩ := (eL_spec (b := posOf s l e) h1 hs.1).1 x hx
  obtain ⟨k1, k2, k3, k4⟩ := tm_key (p := x) h2
  have hmono := way_more l 0 e (1099511627776 - e) (mV_iff.1 h2).2.2 h3.1 (by omega)
  rw [show e + (1099511627776 - e) = 1099511627776 by omega] at hmono
  have h0 : (tmOf s l x).2 = 0 := k3.2 (by omega)
  obtain ⟨m1, m2, m3⟩ := k4 h0
  exact ⟨g1, g2, h0, m1, (m3 e h3.1).1 (by omega)⟩
def edgesG_res (v : Bool) (s : Int) (l : List (List Int)) (e : Int) (T : Int) (M : Int) : CRes := ⟨[v == wValid T M], .tup [.cel (.row 1), .cel (.row 2), .cel (.int .i64 (crG T M s l e))], [.ints .i64 (ctG T M s l e), .ints .i64 (cpG T M s l e)]⟩
def edgesG_go : List TV → List RowA → List (List CV) → Option CRes := fun args rows caps =>
  match args, rows, caps with
  | [.cel (.bool v), .agg [.int .i64 s, .row 0], .cel (.int .i64 e), .cel (.clo 92 [0])], [.recs [.int .i64, .int .i64] l], [[.int .i64 T, .int .i64 M]] => some (edgesG_res v s l e T M)
  | _, _, _ => none
def edgesG_e : Ent := ⟨74, [.recs [.int .i64, .int .i64] []], edgesG_go⟩
def edgesG_L1_F (v : Bool) (s : Int) (l : List (List Int)) (e : Int) (T : Int) (M : Int) (i : Int) (tl : List Int) : St := ⟨74, [], [(54, (.one (.cel (.int .i64 i)))), (53, (.one (.cel (.int .i64 (((List.length (if ((wValid T M) = Bool.true) then (if ((fulB T M s (gmin (posOf s l e) (1099511627776 : Int))) = Bool.true) then ([] : List Int) else (eL T M s (gmin (posOf s l e) (1099511627776 : Int)))) else ([] : List Int))) : Nat) : Int))))), (52, (.one (.cel (.row 1)))), (14, (.one (.cel (.row 2)))), (13, (.one (.cel (.row 1)))), (10, (.one (.cel (.int .i64 (0 : Int))))), (9, (.one (.cel .nilS))), (8, (.one (.cel .nilS))), (5, (.one (.cel (.ptr 1 0))))], [[(.int .i64 T), (.int .i64 M)], [(.int .i64 s), (.row 0)]], [⟨(.recs [.int .i64, .int .i64] l), none⟩, ⟨(.ints .i64 (if ((wValid T M) = Bool.true) then (if ((fulB T M s (gmin (posOf s l e) (1099511627776 : Int))) = Bool.true) then ([] : List Int) else (eL T M s (gmin (posOf s l e) (1099511627776 : Int)))) else ([] : List Int))), none⟩, ⟨(.ints .i64 tl), some 3⟩], 1⟩
def edgesG_L1_I (v : Bool) (s : Int) (l : List (List Int)) (e : Int) (T : Int) (M : Int) (i : Int) (tl : List Int) : Prop := (crG T M s l e = 0) ∧ (0 ≤ i ∧ i ≤ (eL T M s (posOf s l e)).length) ∧ (tl = ((eL T M s (posOf s l e)).take i.toNat).map fun p => (tmOf s l p).1)
def edgesG_L1_m (v : Bool) (s : Int) (l : List (List Int)) (e : Int) (T : Int) (M : Int) (i : Int) (tl : List Int) : Nat := ((eL T M s (posOf s l e)).length - i).toNat
def edgesG_L1_N (v : Bool) (s : Int) (l : List (List Int)) (e : Int) (T : Int) (M : Int) (i' : Int) (tl' : List Int) (st_ : St) : Prop := getI st_ 54 fun i => getR st_ 14 fun tl => edgesG_L1_I v s l e T M i tl ∧ edgesG_L1_m v s l e T M i tl < edgesG_L1_m v s l e T M i' tl' ∧ SubA st_ (edgesG_L1_F v s l e T M i tl)
def edgesG_L1_E (v : Bool) (s : Int) (l : List (List Int)) (e : Int) (T : Int) (M : Int) (st_ : St) : Prop := getI st_ 54 fun i => getR st_ 14 fun tl => edgesG_L1_I v s l e T M i tl ∧ SubA st_ (edgesG_L1_F v s l e T M i tl)
def edgesG_L1_S1 (v : Bool) (s : Int) (l : List (List Int)) (e : Int) (T : Int) (M : Int) : St := ⟨74, [22], [(54, (.one (.cel (.int .i64 (0 : Int))))), (53, (.one (.cel (.int .i64 (((List.length (if ((wValid T M) = Bool.true) then (if ((fulB T M s (gmin (posOf s l e) (1099511627776 : Int))) = Bool.true) then ([] : List Int) else (eL T M s (gmin (posOf s l e) (1099511627776 : Int)))) else ([] : List Int))) : Nat) : Int))))), (52, (.one (.cel (.row 1)))), (14, (.one (.cel .nilS))), (50, (.one (.cel (.bool (!(decide ((if ((wValid T M) = Bool.true) then (if ((fulB T M s (gmin (posOf s l e) (1099511627776 : Int))) = Bool.true) then (5 : Int) else (0 : Int)) else (1 : Int)) = (0 : Int)))))))), (49, (.one (.cel (.int .i64 (if ((wValid T M) = Bool.true) then (if ((fulB T M s (gmin (posOf s l e) (1099511627776 : Int))) = Bool.true) then (5 : Int) else (0 : Int)) else (1 : Int)))))), (12, (.one (.cel (.int .i64 (if ((wValid T M) = Bool.true) then (if ((fulB T M s (gmin (posOf s l e) (1099511627776 : Int))) = Bool.true) then (5 : Int) else (0 : Int)) else (1 : Int)))))), (13, (.one (.cel (.row 1)))), (48, (.one (.cel (.int .i64 (if ((wValid T M) = Bool.true) then (if ((fulB T M s (gmin (posOf s l e) (1099511627776 : Int))) = Bool.true) then (5 : Int) else (0 : Int)) else (1 : Int)))))), (47, (.one (.cel (.row 1)))), (40, (.tup [(.cel (.row 1)), (.cel (.int .i64 (if ((wValid T M) = Bool.true) then (if ((fulB T M s (gmin (posOf s l e) (1099511627776 : Int))) = Bool.true) then (5 : Int) else (0 : Int)) else (1 : Int))))])), (46, (.tup [(.cel (.row 1)), (.cel (.int .i64 (if ((wValid T M) = Bool.true) then (if ((fulB T M s (gmin (posOf s l e) (1099511627776 : Int))) = Bool.true) then (5 : Int) else (0 : Int)) else (1 : Int))))])), (45, (.one (.cel (.int .i64 (gmin (posOf s l e) (1099511627776 : Int)))))), (44, (.one (.cel (.int .i64 (posOf s l e))))), (43, (.one (.cel (.int .i64 s)))), (42, (.one (.cel (.ptr 1 0)))), (41, (.one (.cel (.clo 92 [0])))), (38, (.one (.cel (.bool (!(decide ((mErr s l e) = (0 : Int)))))))), (37, (.one (.cel (.int .i64 (mErr s l e))))), (12, (.one (.cel (.int .i64 (mErr s l e))))), (11, (.one (.cel (.int .i64 (posOf s l e))))), (36, (.one (.cel (.int .i64 (mErr s l e))))), (35, (.one (.cel (.int .i64 (posOf s l e))))), (31, (.tup [(.cel (.int .i64 (posOf s l e))), (.cel (.int .i64 (mErr s l e)))])), (34, (.tup [(.cel (.int .i64 (posOf s l e))), (.cel (.int .i64 (mErr s l e)))])), (33, (.one (.cel (.int .i64 e)))), (32, (.one (.agg [(.int .i64 s), (.row 0)]))), (27, (.one (.cel (.bool (!(isT e)))))), (30, (.one (.cel (.bool (!(isT e)))))), (29, (.one (.cel (.bool (isT e))))), (28, (.one (.cel (.int .i64 e)))), (19, (.one (.cel (.bool ((!v) || (!(mValid s l))))))), (26, (.one (.cel (.bool ((!v) || (!(mValid s l))))))), (25, (.spec 22 Bool.false (.cel (.bool (!(mValid s l)))))), (24, (.spec 22 Bool.false (.cel (.bool (mValid s l))))), (23, (.spec 22 Bool.false (.agg [(.int .i64 s), (.row 0)]))), (22, (.one (.cel (.bool (!v))))), (21, (.one (.cel (.bool (!v))))), (20, (.one (.cel (.bool v)))), (10, (.one (.cel (.int .i64 (0 : Int))))), (9, (.one (.cel .nilS))), (8, (.one (.cel .nilS))), (5, (.one (.cel (.ptr 1 0)))), (0, (.one (.cel (.bool v)))), (1, (.one (.agg [(.int .i64 s), (.row 0)]))), (2, (.one (.cel (.int .i64 e)))), (3, (.one (.cel (.clo 92 [0]))))], [[(.int .i64 T), (.int .i64 M)], [(.int .i64 s), (.row 0)]], [⟨(.recs [.int .i64, .int .i64] l), none⟩, ⟨(.ints .i64 (if ((wValid T M) = Bool.true) then (if ((fulB T M s (gmin (posOf s l e) (1099511627776 : Int))) = Bool.true) then ([] : List Int) else (eL T M s (gmin (posOf s l e) (1099511627776 : Int)))) else ([] : List Int))), none⟩], 1⟩
def edgesG_L1_T (v : Bool) (s : Int) (l : List (List Int)) (e : Int) (T : Int) (M : Int) (i : Int) (tl : List Int) : Prop := (cnd (decide (i < (((List.length (if ((wValid T M) = Bool.true) then (if ((fulB T M s (gmin (posOf s l e) (1099511627776 : Int))) = Bool.true) then ([] : List Int) else (eL T M s (gmin (posOf s l e) (1099511627776 : Int)))) else ([] : List Int))) : Nat) : Int)))
  (cnd (decide ((0 : Int) ≤ i))
    (cnd (decide (i < (((List.length (if ((wValid T M) = Bool.true) then (if ((fulB T M s (gmin (posOf s l e) (1099511627776 : Int))) = Bool.true) then ([] : List Int) else (eL T M s (gmin (posOf s l e) (1099511627776 : Int)))) else ([] : List Int))) : Nat) : Int)))
      (cnd (wfI Go.IntKind.i64 (List.getD (if ((wValid T M) = Bool.true) then (if ((fulB T M s (gmin (posOf s l e) (1099511627776 : Int))) = Bool.true) then ([] : List Int) else (eL T M s (gmin (posOf s l e) (1099511627776 : Int)))) else ([] : List Int)) (Int.toNat i) (0 : Int)))
        (cnd (!(decide ((Prod.snd (tmOf s l (List.getD (if ((wValid T M) = Bool.true) then (if ((fulB T M s (gmin (posOf s l e) (1099511627776 : Int))) = Bool.true) then ([] : List Int) else (eL T M s (gmin (posOf s l e) (1099511627776 : Int)))) else ([] : List Int)) (Int.toNat i) (0 : Int)))) = (0 : Int))))
          ((True ∧ (True ∧ ((Prod.snd (tmOf s l (List.getD (if ((wValid T M) = Bool.true) then (if ((fulB T M s (gmin (posOf s l e) (1099511627776 : Int))) = Bool.true) then ([] : List Int) else (eL T M s (gmin (posOf s l e) (1099511627776 : Int)))) else ([] : List Int)) (Int.toNat i) (0 : Int)))) = (crG T M s l e)))) ∧ (((ctG T M s l e) = ([] : List Int)) ∧ (((cpG T M s l e) = ([] : List Int)) ∧ True)))
          (cnd (decide ((List.length (tl ++ [(Prod.fst (tmOf s l (List.getD (if ((wValid T M) = Bool.true) then (if ((fulB T M s (gmin (posOf s l e) (1099511627776 : Int))) = Bool.true) then ([] : List Int) else (eL T M s (gmin (posOf s l e) (1099511627776 : Int)))) else ([] : List Int)) (Int.toNat i) (0 : Int))))])) ≤ 4294967296))
            ((edgesG_L1_I v s l e T M (Go.IntKind.wrap Go.IntKind.i64 (i + (1 : Int))) (tl ++ [(Prod.fst (tmOf s l (List.getD (if ((wValid T M) = Bool.true) then (if ((fulB T M s (gmin (posOf s l e) (1099511627776 : Int))) = Bool.true) then ([] : List Int) else (eL T M s (gmin (posOf s l e) (1099511627776 : Int)))) else ([] : List Int)) (Int.toNat i) (0 : Int))))])) ∧ (((edgesG_L1_m v s l e T M (Go.IntKind.wrap Go.IntKind.i64 (i + (1 : Int))) (tl ++ [(Prod.fst (tmOf s l (List.getD (if ((wValid T M) = Bool.true) then (if ((fulB T M s (gmin (posOf s l e) (1099511627776 : Int))) = Bool.true) then ([] : List Int) else (eL T M s (gmin (posOf s l e) (1099511627776 : Int)))) else ([] : List Int)) (Int.toNat i) (0 : Int))))])) < (edgesG_L1_m v s l e T M i tl)) ∧ (((Go.IntKind.wrap Go.IntKind.i64 (i + (1 : Int))) = (Go.IntKind.wrap Go.IntKind.i64 (i + (1 : Int)))) ∧ (((((List.length (if ((wValid T M) = Bool.true) then (if ((fulB T M s (gmin (posOf s l e) (1099511627776 : Int))) = Bool.true) then ([] : List Int) else (eL T M s (gmin (posOf s l e) (1099511627776 : Int)))) else ([] : List Int))) : Nat) : Int) = (((List.length (if ((wValid T M) = Bool.true) then (if ((fulB T M s (gmin (posOf s l e) (1099511627776 : Int))) = Bool.true) then ([] : List Int) else (eL T M s (gmin (posOf s l e) (1099511627776 : Int)))) else ([] : List Int))) : Nat) : Int)) ∧ (True ∧ (True ∧ (True ∧ (((0 : Int) = (0 : Int)) ∧ (True ∧ (True ∧ (True ∧ (((T = T) ∧ (M = M)) ∧ (((s = s) ∧ True) ∧ ((l = l) ∧ (((if ((wValid T M) = Bool.true) then (if ((fulB T M s (gmin (posOf s l e) (1099511627776 : Int))) = Bool.true) then ([] : List Int) else (eL T M s (gmin (posOf s l e) (1099511627776 : Int)))) else ([] : List Int)) = (if ((wValid T M) = Bool.true) then (if ((fulB T M s (gmin (posOf s l e) (1099511627776 : Int))) = Bool.true) then ([] : List Int) else (eL T M s (gmin (posOf s l e) (1099511627776 : Int)))) else ([] : List Int))) ∧ (((tl ++ [(Prod.fst (tmOf s l (List.getD (if ((wValid T M) = Bool.true) then (if ((fulB T M s (gmin (posOf s l e) (1099511627776 : Int))) = Bool.true) then ([] : List Int) else (eL T M s (gmin (posOf s l e) (1099511627776 : Int)))) else ([] : List Int)) (Int.toNat i) (0 : Int))))]) = (tl ++ [(Prod.fst (tmOf s l (List.getD (if ((wValid T M) = Bool.true) then (if ((fulB T M s (gmin (posOf s l e) (1099511627776 : Int))) = Bool.true) then ([] : List Int) else (eL T M s (gmin (posOf s l e) (1099511627776 : Int)))) else ([] : List Int)) (Int.toNat i) (0 : Int))))])) ∧ True))))))))))))))))
            False))
        False)
      False)
    False)
  ((True ∧ (True ∧ ((0 : Int) = (crG T M s l e)))) ∧ ((tl = (ctG T M s l e)) ∧ (((if ((wValid T M) = Bool.true) then (if ((fulB T M s (gmin (posOf s l e) (1099511627776 : Int))) = Bool.true) then ([] : List Int) else (eL T M s (gmin (posOf s l e) (1099511627776 : Int)))) else ([] : List Int)) = (cpG T M s l e)) ∧ True))))
set_option maxRecDepth 100000 in
theorem edgesG_L1_tree (v : Bool) (s : Int) (l : List (List Int)) (e : Int) (T : Int) (M : Int) (i : Int) (tl : List Int) : edgesG_L1_T v s l e T M i tl = ex Try.prog (conOf [valid_e, stime_e, position_e, mtime_e, crank1G_e]) (subC (bodyOf Try.f74) [1, 1, 1, 1, 1, 1, 1, 0, 1, 0, 0]) (nextE (edgesG_L1_N v s l e T M i tl) (kont Try.prog (conOf [valid_e, stime_e, position_e, mtime_e, crank1G_e]) (bodyOf Try.f74) [1, 1, 1, 1, 1, 1, 1, 0, 1, 0] (retPost Try.prog Try.f74 1 (edgesG_res v s l e T M)))) (edgesG_L1_F v s l e T M i tl) := by kernel_rfl
set_option maxRecDepth 100000 in
theorem edgesG_L1_round (v : Bool) (s : Int) (l : List (List Int)) (e : Int) (T : Int) (M : Int) (i : Int) (tl : List Int) (p0 : (v == wValid T M) = true) (hI_L1 : edgesG_L1_I v s l e T M i tl) : edgesG_L1_T v s l e T M i tl := by
  obtain ⟨a0, ⟨a1, a2⟩, a3⟩ := hI_L1
  obtain ⟨f1, f2, f3, f4, f5, f6, f7, ⟨f8, fa, fb, fc⟩, f9⟩ := cr_factsG a0
  have hgm : gmin (posOf s l e) 1099511627776 = posOf s l e := fb
  unfold edgesG_L1_T
  simp only [hgm, f1, fc, if_true, Bool.false_eq_true, if_false]
  have hP : cpG T M s l e = eL T M s (posOf s l e) := by unfold cpG; rw [if_pos a0]
  have hT : ctG T M s l e = (eL T M s (posOf s l e)).map fun p => (tmOf s l p).1 := by unfold ctG; rw [hP]
  have hF : ∀ (i' : Int) (tl' : List Int), 0 ≤ i' ∧ i' ≤ (eL T M s (posOf s l e)).length → tl' = ((eL T M s (posOf s l e)).take i'.toNat).map (fun p => (tmOf s l p).1) → edgesG_L1_I v s l e T M i' tl' := fun i' tl' h1 h2 => ⟨a0, h1, h2⟩
  have hμ : ∀ tl', i < (eL T M s (posOf s l e)).length → edgesG_L1_m v s l e T M (i + 1) tl' < edgesG_L1_m v s l e T M i tl := fun tl' h => by unfold edgesG_L1_m; omega
  rw [hP, hT, a0]
  have hlt : tl.length = i.toNat := by rw [a3, List.length_map, List.length_take]; omega
  generalize eL T M s (posOf s l e) = P at *
  by_cases hi : i < P.length
  · have hx : P.getD i.toNat 0 ∈ P := by
      rw [List.getD_eq_getElem?_getD, List.getElem?_eq_getElem (by omega)]
      exact List.getElem_mem (by omega)
    obtain ⟨g1, g2, g3, g4, g5⟩ := f9 _ hx
    have hwf : wfI .i64 (P.getD i.toNat 0) = true := wfI64.2 (by omega)
    have hlen : ∀ r : Int, (tl ++ [r]).length = tl.length + 1 := fun r => by simp
    rw [decide_eq_true hi, decide_eq_true a1, hwf, g3, decide_eq_true (show (tl ++ [(tmOf s l (P.getD i.toNat 0)).1]).length ≤ 4294967296 by rw [hlen]; omega), w64 (n := i + 1) (by omega) (by omega)]
    refine ⟨hF _ _ ⟨by omega, by omega⟩ ?_, hμ _ hi, by simp⟩
    · rw [show (i + 1).toNat = i.toNat + 1 by omega, List.take_add_one, List.getElem?_eq_getElem (by omega), List.map_append, ← a3, List.getD_eq_getElem?_getD, List.getElem?_eq_getElem (by omega)]
      rfl
  · rw [decide_eq_false hi]
    rw [List.take_of_length_le (by omega)] at a3
    exact ⟨⟨trivial, trivial, rfl⟩, a3, rfl, trivial⟩
set_option maxRecDepth 100000 in
theorem edgesG_L1_entry1 (v : Bool) (s : Int) (l : List (List Int)) (e : Int) (T : Int) (M : Int) : (((edgesG_L1_I v s l e T M (0 : Int) ([] : List Int)) ∧ (((0 : Int) = (0 : Int)) ∧ (((((List.length (if ((wValid T M) = Bool.true) then (if ((fulB T M s (gmin (posOf s l e) (1099511627776 : Int))) = Bool.true) then ([] : List Int) else (eL T M s (gmin (posOf s l e) (1099511627776 : Int)))) else ([] : List Int))) : Nat) : Int) = (((List.length (if ((wValid T M) = Bool.true) then (if ((fulB T M s (gmin (posOf s l e) (1099511627776 : Int))) = Bool.true) then ([] : List Int) else (eL T M s (gmin (posOf s l e) (1099511627776 : Int)))) else ([] : List Int))) : Nat) : Int)) ∧ (True ∧ (True ∧ (True ∧ (((0 : Int) = (0 : Int)) ∧ (True ∧ (True ∧ (True ∧ (((T = T) ∧ (M = M)) ∧ (((s = s) ∧ True) ∧ ((l = l) ∧ (((if ((wValid T M) = Bool.true) then (if ((fulB T M s (gmin (posOf s l e) (1099511627776 : Int))) = Bool.true) then ([] : List Int) else (eL T M s (gmin (posOf s l e) (1099511627776 : Int)))) else ([] : List Int)) = (if ((wValid T M) = Bool.true) then (if ((fulB T M s (gmin (posOf s l e) (1099511627776 : Int))) = Bool.true) then ([] : List Int) else (eL T M s (gmin (posOf s l e) (1099511627776 : Int)))) else ([] : List Int))) ∧ ((([] : List Int) = ([] : List Int)) ∧ True)))))))))))))))) = edgesG_L1_E v s l e T M (edgesG_L1_S1 v s l e T M) := by kernel_rfl
theorem edgesG_L1_1 (v : Bool) (s : Int) (l : List (List Int)) (e : Int) (T : Int) (M : Int) (p0 : (v == wValid T M) = true) (h : ((edgesG_L1_I v s l e T M (0 : Int) ([] : List Int)) ∧ (((0 : Int) = (0 : Int)) ∧ (((((List.length (if ((wValid T M) = Bool.true) then (if ((fulB T M s (gmin (posOf s l e) (1099511627776 : Int))) = Bool.true) then ([] : List Int) else (eL T M s (gmin (posOf s l e) (1099511627776 : Int)))) else ([] : List Int))) : Nat) : Int) = (((List.length (if ((wValid T M) = Bool.true) then (if ((fulB T M s (gmin (posOf s l e) (1099511627776 : Int))) = Bool.true) then ([] : List Int) else (eL T M s (gmin (posOf s l e) (1099511627776 : Int)))) else ([] : List Int))) : Nat) : Int)) ∧ (True ∧ (True ∧ (True ∧ (((0 : Int) = (0 : Int)) ∧ (True ∧ (True ∧ (True ∧ (((T = T) ∧ (M = M)) ∧ (((s = s) ∧ True) ∧ ((l = l) ∧ (((if ((wValid T M) = Bool.true) then (if ((fulB T M s (gmin (posOf s l e) (1099511627776 : Int))) = Bool.true) then ([] : List Int) else (eL T M s (gmin (posOf s l e) (1099511627776 : Int)))) else ([] : List Int)) = (if ((wValid T M) = Bool.true) then (if ((fulB T M s (gmin (posOf s l e) (1099511627776 : Int))) = Bool.true) then ([] : List Int) else (eL T M s (gmin (posOf s l e) (1099511627776 : Int)))) else ([] : List Int))) ∧ ((([] : List Int) = ([] : List Int)) ∧ True)))))))))))))))) : LoopP (ex Try.prog (conOf [valid_e, stime_e, position_e, mtime_e, crank1G_e]) (subC (bodyOf Try.f74) [1, 1, 1, 1, 1, 1, 1, 0, 1, 0, 0])) (kont Try.prog (conOf [valid_e, stime_e, position_e, mtime_e, crank1G_e]) (bodyOf Try.f74) [1, 1, 1, 1, 1, 1, 1, 0, 1, 0] (retPost Try.prog Try.f74 1 (edgesG_res v s l e T M))) (edgesG_L1_S1 v s l e T M) := by
  have hE : edgesG_L1_E v s l e T M (edgesG_L1_S1 v s l e T M) := Eq.mp (edgesG_L1_entry1 v s l e T M) h
  unfold edgesG_L1_E at hE
  obtain ⟨i, hE⟩ := getI_of hE
  obtain ⟨tl, hE⟩ := getR_of hE
  refine loop_of (α := (Int) × (List Int)) (fun xx_ => edgesG_L1_F v s l e T M xx_.1 xx_.2) (fun xx_ => edgesG_L1_I v s l e T M xx_.1 xx_.2) (fun xx_ => edgesG_L1_m v s l e T M xx_.1 xx_.2) (fun xx_ => edgesG_L1_N v s l e T M xx_.1 xx_.2) (fun xx_ => edgesG_L1_T v s l e T M xx_.1 xx_.2) (fun xx_ s_ h => ?_) ⟨⟨i, tl⟩, hE⟩ (fun xx_ => edgesG_L1_tree v s l e T M xx_.1 xx_.2) (fun xx_ hI => edgesG_L1_round v s l e T M xx_.1 xx_.2 p0 hI)
  unfold edgesG_L1_N at h
  obtain ⟨i, h⟩ := getI_of h
  obtain ⟨tl, h⟩ := getR_of h
  exact ⟨⟨i, tl⟩, h⟩
set_option maxRecDepth 100000 in
theorem edgesG_tree (v : Bool) (s : Int) (l : List (List Int)) (e : Int) (T : Int) (M : Int) : ((cnd ((!v) || (!(mValid s l)))
  ((True ∧ (True ∧ ((1 : Int) = (crG T M s l e)))) ∧ (((ctG T M s l e) = ([] : List Int)) ∧ (((cpG T M s l e) = ([] : List Int)) ∧ True)))
  (cnd (!(isT e))
    ((True ∧ (True ∧ ((2 : Int) = (crG T M s l e)))) ∧ (((ctG T M s l e) = ([] : List Int)) ∧ (((cpG T M s l e) = ([] : List Int)) ∧ True)))
    (cnd (!(decide ((mErr s l e) = (0 : Int))))
      ((True ∧ (True ∧ ((mErr s l e) = (crG T M s l e)))) ∧ (((ctG T M s l e) = ([] : List Int)) ∧ (((cpG T M s l e) = ([] : List Int)) ∧ True)))
      (cnd ((isT s) && (isT (gmin (posOf s l e) (1099511627776 : Int))))
        (cnd (decide (s ≤ (gmin (posOf s l e) (1099511627776 : Int))))
          (cnd (!(decide ((if ((wValid T M) = Bool.true) then (if ((fulB T M s (gmin (posOf s l e) (1099511627776 : Int))) = Bool.true) then (5 : Int) else (0 : Int)) else (1 : Int)) = (0 : Int))))
            ((True ∧ (True ∧ ((if ((wValid T M) = Bool.true) then (if ((fulB T M s (gmin (posOf s l e) (1099511627776 : Int))) = Bool.true) then (5 : Int) else (0 : Int)) else (1 : Int)) = (crG T M s l e)))) ∧ (((ctG T M s l e) = ([] : List Int)) ∧ (((cpG T M s l e) = ([] : List Int)) ∧ True)))
            (LoopP (ex Try.prog (conOf [valid_e, stime_e, position_e, mtime_e, crank1G_e]) (subC (bodyOf Try.f74) [1, 1, 1, 1, 1, 1, 1, 0, 1, 0, 0])) (kont Try.prog (conOf [valid_e, stime_e, position_e, mtime_e, crank1G_e]) (bodyOf Try.f74) [1, 1, 1, 1, 1, 1, 1, 0, 1, 0] (retPost Try.prog Try.f74 1 (edgesG_res v s l e T M))) (edgesG_L1_S1 v s l e T M)))
          False)
        False))))) = EXD Try.prog (conOf [valid_e, stime_e, position_e, mtime_e, crank1G_e]) Try.f74 [.cel (.bool v), .agg [.int .i64 s, .row 0], .cel (.int .i64 e), .cel (.clo 92 [0])] [.recs [.int .i64, .int .i64] l] [[.int .i64 T, .int .i64 M]] (edgesG_res v s l e T M) := by kernel_rfl
theorem edgesG_holds (v : Bool) (s : Int) (l : List (List Int)) (e : Int) (T : Int) (M : Int) (p0 : (v == wValid T M) = true) : (cnd ((!v) || (!(mValid s l)))
  ((True ∧ (True ∧ ((1 : Int) = (crG T M s l e)))) ∧ (((ctG T M s l e) = ([] : List Int)) ∧ (((cpG T M s l e) = ([] : List Int)) ∧ True)))
  (cnd (!(isT e))
    ((True ∧ (True ∧ ((2 : Int) = (crG T M s l e)))) ∧ (((ctG T M s l e) = ([] : List Int)) ∧ (((cpG T M s l e) = ([] : List Int)) ∧ True)))
    (cnd (!(decide ((mErr s l e) = (0 : Int))))
      ((True ∧ (True ∧ ((mErr s l e) = (crG T M s l e)))) ∧ (((ctG T M s l e) = ([] : List Int)) ∧ (((cpG T M s l e) = ([] : List Int)) ∧ True)))
      (cnd ((isT s) && (isT (gmin (posOf s l e) (1099511627776 : Int))))
        (cnd (decide (s ≤ (gmin (posOf s l e) (1099511627776 : Int))))
          (cnd (!(decide ((if ((wValid T M) = Bool.true) then (if ((fulB T M s (gmin (posOf s l e) (1099511627776 : Int))) = Bool.true) then (5 : Int) else (0 : Int)) else (1 : Int)) = (0 : Int))))
            ((True ∧ (True ∧ ((if ((wValid T M) = Bool.true) then (if ((fulB T M s (gmin (posOf s l e) (1099511627776 : Int))) = Bool.true) then (5 : Int) else (0 : Int)) else (1 : Int)) = (crG T M s l e)))) ∧ (((ctG T M s l e) = ([] : List Int)) ∧ (((cpG T M s l e) = ([] : List Int)) ∧ True)))
            (LoopP (ex Try.prog (conOf [valid_e, stime_e, position_e, mtime_e, crank1G_e]) (subC (bodyOf Try.f74) [1, 1, 1, 1, 1, 1, 1, 0, 1, 0, 0])) (kont Try.prog (conOf [valid_e, stime_e, position_e, mtime_e, crank1G_e]) (bodyOf Try.f74) [1, 1, 1, 1, 1, 1, 1, 0, 1, 0] (retPost Try.prog Try.f74 1 (edgesG_res v s l e T M))) (edgesG_L1_S1 v s l e T M)))
          False)
        False)))) := by
  have hv : v = wValid T M := by simpa using p0
  by_cases hz : crE (wValid T M) s l e = 0
  · obtain ⟨h1, h2, h3⟩ := crE_zero.1 hz
    have hm : mErr s l e = 0 := mErr_zero.2 ⟨h2, h3⟩
    have hp : posOf s l e = s + way e l / 65536 := by unfold posOf; rw [if_pos hm]
    have hs := (mV_iff.1 h2).1
    have hw := way_bd l 0 e (mV_iff.1 h2).2.2 h3.1
    have hgm : s ≤ gmin (posOf s l e) 1099511627776 ∧ gmin (posOf s l e) 1099511627776 ≤ 1099511627776 := by unfold gmin; split <;> omega
    have hT1 : (isT s && isT (gmin (posOf s l e) 1099511627776)) = true := by
      rw [isT_iff.2 (show 0 ≤ s ∧ s ≤ 1099511627776 by omega), isT_iff.2 (show 0 ≤ gmin (posOf s l e) 1099511627776 ∧ gmin (posOf s l e) 1099511627776 ≤ 1099511627776 by omega)]; rfl
    refine cnd_i (fun h => by rw [hv, h1, h2] at h; cases h) (fun _ => ?_)
    refine cnd_i (fun h => by rw [isT_iff.2 h3] at h; cases h) (fun _ => ?_)
    refine cnd_i (fun h => by rw [hm] at h; simp at h) (fun _ => ?_)
    refine cnd_i (fun _ => ?_) (fun h => by rw [hT1] at h; cases h)
    refine cnd_i (fun _ => ?_) (fun h => by rw [decide_eq_true hgm.1] at h; cases h)
    cases hful : fulB T M s (gmin (posOf s l e) 1099511627776) with
    | true =>
      have hG : crG T M s l e = 5 := by
        unfold crG ePos
        rw [if_pos hz, hful]
        rfl
      have hP : cpG T M s l e = [] := by unfold cpG; rw [hG]; rfl
      have hT : ctG T M s l e = [] := by unfold ctG; rw [hP]; rfl
      rw [hG, hP, hT, h1]
      simp [cnd]
    | false =>
      have hG : crG T M s l e = 0 := by
        unfold crG ePos
        rw [if_pos hz, hful]
        rfl
      refine cnd_i (fun h => by simp [h1] at h) (fun _ => ?_)
      have h9 := edgesG_L1_1 v s l e T M p0 ⟨⟨hG, ⟨by omega, by omega⟩, by simp⟩, by simp⟩
      exact h9
  · have hG : crG T M s l e = crE (wValid T M) s l e := by unfold crG; rw [if_neg hz]
    have hP : cpG T M s l e = [] := by unfold cpG; rw [hG, if_neg hz]
    have hT : ctG T M s l e = [] := by unfold ctG; rw [hP]; rfl
    rw [hP, hT, hv, hG]
    unfold crE at hz ⊢
    cases h1 : wValid T M with
    | false => simp [cnd]
    | true =>
      cases h2 : mValid s l with
      | false => simp [cnd]
      | true =>
        cases h3 : isT e with
        | false => simp [cnd]
        | true => simp [h1, h2, h3] at hz
set_option maxHeartbeats 2000000 in
theorem edgesG_ok : SoundEnt Try.prog edgesG_e := by
  refine ent_of_ex (Γ := (conOf [valid_e, stime_e, position_e, mtime_e, crank1G_e])) (conOf_sound (scons valid_ok (scons stime_ok (scons position_ok (scons mtime_ok (scons crank1G_ok snil)))))) (by kernel_rfl) Try.func74 (by kernel_rfl) (by kernel_rfl) (fun args rows caps res h ho => ?_)
  change edgesG_go args rows caps = some res at h
  unfold edgesG_go at h
  split at h
  · simp only [Option.some.injEq] at h
    subst h
    rename_i q0_ q1_ q3_ q2_ q4_ q5_
    obtain ⟨p0, _⟩ := ho
    exact EX.of (edgesG_tree q0_ q1_ q2_ q3_ q4_ q5_) (edgesG_holds q0_ q1_ q2_ q3_ q4_ q5_ p0)
  · cases h
theorem cr_timeG {T M s : Int} {l : List (List Int)} {e : Int} (h : crG T M s l e = 0) {x : Int} (hx : x ∈ eL T M s (posOf s l e)) :
    1 ≤ (tmOf s l x).1 ∧ (tmOf s l x).1 ≤ e ∧ mErr s l (tmOf s l x).1 = 0 ∧ mErr s l ((tmOf s l x).1 - 1) = 0 ∧ x ≤ posOf s l (tmOf s l x).1 ∧ posOf s l ((tmOf s l x).1 - 1) < x ∧ posOf s l (tmOf s l x).1 ≤ x + 8 := by
  obtain ⟨f1, f2, f3, f4, f5, f6, f7, f8, f9⟩ := cr_factsG h
  obtain ⟨g1, g2, g3, g4, g5⟩ := f9 x hx
  obtain ⟨k1, k2, k3, k4⟩ := tm_key (p := x) f2
  obtain ⟨m1, m2, m3⟩ := k4 g3
  have v := (mV_iff.1 f2).2.2
  have hz := way_zero l 0 v
  have h0 := m3 0 (by omega)
  rw [hz] at h0
  have ht : 1 ≤ (tmOf s l x).1 := by omega
  have e1 : mErr s l (tmOf s l x).1 = 0 := mErr_zero.2 ⟨f2, by omega, by omega⟩
  have e2 : mErr s l ((tmOf s l x).1 - 1) = 0 := mErr_zero.2 ⟨f2, by omega, by omega⟩
  have c1 := (m3 (tmOf s l x).1 (by omega)).2 (Int.le_refl _)
  have c2 : ¬ x ≤ s + way ((tmOf s l x).1 - 1) l / 65536 := fun hc => by
    have := (m3 ((tmOf s l x).1 - 1) (by omega)).1 hc
    omega
  have c3 := way_lip l 0 ((tmOf s l x).1 - 1) 1 v (by omega) (by omega)
  rw [show (tmOf s l x).1 - 1 + 1 = (tmOf s l x).1 by omega] at c3
  rw [pos_at e1, pos_at e2]
  exact ⟨ht, g5, e1, e2, c1, by omega, by omega⟩
theorem cr_ltG {T M s : Int} {l : List (List Int)} {e : Int} (h : crG T M s l e = 0) {x y : Int} (hx : x ∈ eL T M s (posOf s l e)) (hy : y ∈ eL T M s (posOf s l e)) (hxy : x + 192 ≤ y) : (tmOf s l x).1 < (tmOf s l y).1 := by
  obtain ⟨a1, a2, a3, a4, a5, a6, a7⟩ := cr_timeG h hx
  obtain ⟨b1, b2, b3, b4, b5, b6, b7⟩ := cr_timeG h hy
  obtain ⟨f1, f2, f3, f4, f5, f6, f7, f8, f9⟩ := cr_factsG h
  have v := (mV_iff.1 f2).2.2
  rcases Int.lt_or_le (tmOf s l x).1 (tmOf s l y).1 with hl | hl
  · exact hl
  · have hm := way_more l 0 (tmOf s l y).1 ((tmOf s l x).1 - (tmOf s l y).1) v (by omega) (by omega)
    rw [show (tmOf s l y).1 + ((tmOf s l x).1 - (tmOf s l y).1) = (tmOf s l x).1 by omega] at hm
    rw [pos_at a3] at a7
    rw [pos_at b3] at b5
    omega
theorem cr_validG {T M s : Int} {l : List (List Int)} {e : Int} (h : crG T M s l e = 0) : vE (ctG T M s l e) = true ∧ (ctG T M s l e).length = (eL T M s (posOf s l e)).length ∧ (eL T M s (posOf s l e)).length ≤ 1000 := by
  obtain ⟨f1, f2, f3, f4, f5, f6, f7, f8, f9⟩ := cr_factsG h
  obtain ⟨_, e2, e3⟩ := eL_spec (b := posOf s l e) f1 f4.1
  have e3 := e3 f7
  have hP : cpG T M s l e = eL T M s (posOf s l e) := by unfold cpG; rw [if_pos h]
  have hT : ctG T M s l e = (eL T M s (posOf s l e)).map fun p => (tmOf s l p).1 := by unfold ctG; rw [hP]
  have hlen : (ctG T M s l e).length = (eL T M s (posOf s l e)).length := by rw [hT, List.length_map]
  refine ⟨vE_iff.2 ⟨by omega, ?_, ?_⟩, hlen, by omega⟩
  · rw [hT, List.all_eq_true]
    intro t ht
    obtain ⟨x, hx, rfl⟩ := List.mem_map.1 ht
    have := cr_timeG h hx
    exact isT_iff.2 (by omega)
  · refine incr_of ?_
    rw [hT, List.pairwise_map]
    exact e2.imp_of_mem fun {x y} hx hy hxy => cr_ltG h hx hy hxy
def crankG_res (T : Int) (M : Int) (s : Int) (l : List (List Int)) (e : Int) : CRes := ⟨[], .tup [.cel (.row 1), .cel (.row 2), .cel (.int .i64 (crG T M s l e))], [.ints .i64 (ctG T M s l e), .ints .i64 (cpG T M s l e)]⟩
def crankG_go : List TV → List RowA → List (List CV) → Option CRes := fun args rows caps =>
  match args, rows, caps with
  | [.agg [.int .i64 T, .int .i64 M], .agg [.int .i64 s, .row 0], .cel (.int .i64 e)], [.recs [.int .i64, .int .i64] l], [] => some (crankG_res T M s l e)
  | _, _, _ => none
def crankG_e : Ent := ⟨39, [.recs [.int .i64, .int .i64] []], crankG_go⟩
set_option maxRecDepth 100000 in
theorem crankG_tree (T : Int) (M : Int) (s : Int) (l : List (List Int)) (e : Int) : ((cnd ((wValid T M) == (wValid T M))
  ((True ∧ (True ∧ ((crG T M s l e) = (crG T M s l e)))) ∧ (((ctG T M s l e) = (ctG T M s l e)) ∧ (((cpG T M s l e) = (cpG T M s l e)) ∧ True)))
  False)) = EXD Try.prog (conOf [wvalid_e, edgesG_e]) Try.f39 [.agg [.int .i64 T, .int .i64 M], .agg [.int .i64 s, .row 0], .cel (.int .i64 e)] [.recs [.int .i64, .int .i64] l] [] (crankG_res T M s l e) := by kernel_rfl
theorem crankG_holds (T : Int) (M : Int) (s : Int) (l : List (List Int)) (e : Int)  : (cnd ((wValid T M) == (wValid T M))
  ((True ∧ (True ∧ ((crG T M s l e) = (crG T M s l e)))) ∧ (((ctG T M s l e) = (ctG T M s l e)) ∧ (((cpG T M s l e) = (cpG T M s l e)) ∧ True)))
  False) := by
  simp [cnd]
set_option maxHeartbeats 2000000 in
theorem crankG_ok : SoundEnt Try.prog crankG_e := by
  refine ent_of_ex (Γ := (conOf [wvalid_e, edgesG_e])) (conOf_sound (scons wvalid_ok (scons edgesG_ok snil))) (by kernel_rfl) Try.func39 (by kernel_rfl) (by kernel_rfl) (fun args rows caps res h ho => ?_)
  change crankG_go args rows caps = some res at h
  unfold crankG_go at h
  split at h
  · simp only [Option.some.injEq] at h
    subst h
    rename_i q0_ q1_ q2_ q4_ q3_
    skip
    exact EX.of (crankG_tree q0_ q1_ q2_ q3_ q4_) (crankG_holds q0_ q1_ q2_ q3_ q4_)
  · cases h
def CrankG_res (T : Int) (M : Int) (s : Int) (l : List (List Int)) (e : Int) : CRes := ⟨[], .tup [.cel (.row 1), .cel (.int .i64 (crG T M s l e))], [.ints .i64 (ctG T M s l e)]⟩
def CrankG_go : List TV → List RowA → List (List CV) → Option CRes := fun args rows caps =>
  match args, rows, caps with
  | [.agg [.int .i64 T, .int .i64 M], .agg [.int .i64 s, .row 0], .cel (.int .i64 e)], [.recs [.int .i64, .int .i64] l], [] => some (CrankG_res T M s l e)
  | _, _, _ => none
def CrankG_e : Ent := ⟨15, [.recs [.int .i64, .int .i64] []], CrankG_go⟩
set_option maxRecDepth 100000 in
theorem CrankG_tree (T : Int) (M : Int) (s : Int) (l : List (List Int)) (e : Int) : (((True ∧ ((crG T M s l e) = (crG T M s l e))) ∧ (((ctG T M s l e) = (ctG T M s l e)) ∧ True))) = EXD Try.prog (conOf [crankG_e]) Try.f15 [.agg [.int .i64 T, .int .i64 M], .agg [.int .i64 s, .row 0], .cel (.int .i64 e)] [.recs [.int .i64, .int .i64] l] [] (CrankG_res T M s l e) := by kernel_rfl
theorem CrankG_holds (T : Int) (M : Int) (s : Int) (l : List (List Int)) (e : Int)  : ((True ∧ ((crG T M s l e) = (crG T M s l e))) ∧ (((ctG T M s l e) = (ctG T M s l e)) ∧ True)) := by
  exact ⟨⟨trivial, rfl⟩, rfl, trivial⟩
set_option maxHeartbeats 2000000 in
theorem CrankG_ok : SoundEnt Try.prog CrankG_e := by
  refine ent_of_ex (Γ := (conOf [crankG_e])) (conOf_sound (scons crankG_ok snil)) (by kernel_rfl) Try.func15 (by kernel_rfl) (by kernel_rfl) (fun args rows caps res h ho => ?_)
  change CrankG_go args rows caps = some res at h
  unfold CrankG_go at h
  split at h
  · simp only [Option.some.injEq] at h
    subst h
    rename_i q0_ q1_ q2_ q4_ q3_
    skip
    exact EX.of (CrankG_tree q0_ q1_ q2_ q3_ q4_) (CrankG_holds q0_ q1_ q2_ q3_ q4_)
  · cases h
end Go.Proofs.Ythfliohfkhnpiaa

