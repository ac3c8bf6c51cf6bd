/- Noise: the reference's tolerance. -/
import Derived.Test.YthfliohfkhnpiaaJf
namespace Go.Proofs.Ythfliohfkhnpiaa
set_option linter.unusedVariables false
set_option linter.unusedSimpArgs false
open Go.RowKit

def rlong_res (j : List Int) (d : List Int) (u : List Int) : CRes := ⟨[], .one (.cel (.bool (lngB j d u))), []⟩
def rlong_go : List TV → List RowA → List (List CV) → Option CRes := fun args rows caps =>
  match args, rows, caps with
  | [.agg [.row 0, .row 1, .row 2]], [.ints .i64 j, .ints .i64 d, .ints .i64 u], [] => some (rlong_res j d u)
  | _, _, _ => none
def rlong_e : Ent := ⟨81, [.ints .i64 [], .ints .i64 [], .ints .i64 []], rlong_go⟩
set_option maxRecDepth 100000 in
theorem rlong_tree (j : List Int) (d : List Int) (u : List Int) : (((((decide ((1000 : Int) < (((List.length j) : Nat) : Int))) || (decide ((1000 : Int) < (((List.length d) : Nat) : Int)))) || (decide ((1000 : Int) < (((List.length u) : Nat) : Int)))) = (lngB j d u))) = EXD Try.prog (conOf []) Try.f81 [.agg [.row 0, .row 1, .row 2]] [.ints .i64 j, .ints .i64 d, .ints .i64 u] [] (rlong_res j d u) := by kernel_rfl
theorem rlong_holds (j : List Int) (d : List Int) (u : List Int)  : ((((decide ((1000 : Int) < (((List.length j) : Nat) : Int))) || (decide ((1000 : Int) < (((List.length d) : Nat) : Int)))) || (decide ((1000 : Int) < (((List.length u) : Nat) : Int)))) = (lngB j d u)) := by
  unfold lngB
  rw [Bool.eq_iff_iff]
  simp only [decide_eq_true_eq, Bool.or_eq_true]
  omega
set_option maxHeartbeats 2000000 in
theorem rlong_ok : SoundEnt Try.prog rlong_e := by
  refine ent_of_ex (Γ := (conOf [])) (conOf_sound snil) (by kernel_rfl) Try.func81 (by kernel_rfl) (by kernel_rfl) (fun args rows caps res h ho => ?_)
  change rlong_go args rows caps = some res at h
  unfold rlong_go at h
  split at h
  · simp only [Option.some.injEq] at h
    subst h
    rename_i q0_ q1_ q2_
    skip
    exact EX.of (rlong_tree q0_ q1_ q2_) (rlong_holds q0_ q1_ q2_)
  · cases h
def rmoved_res (j : List Int) (d : List Int) (u : List Int) (i : Int) : CRes := ⟨[decide (0 ≤ i)], .one (.cel (.int .i64 (mvd j i))), []⟩
def rmoved_go : List TV → List RowA → List (List CV) → Option CRes := fun args rows caps =>
  match args, rows, caps with
  | [.agg [.row 0, .row 1, .row 2], .cel (.int .i64 i)], [.ints .i64 j, .ints .i64 d, .ints .i64 u], [] => some (rmoved_res j d u i)
  | _, _, _ => none
def rmoved_e : Ent := ⟨85, [.ints .i64 [], .ints .i64 [], .ints .i64 []], rmoved_go⟩
set_option maxRecDepth 100000 in
theorem rmoved_tree (j : List Int) (d : List Int) (u : List Int) (i : Int) : ((cnd (decide ((((List.length j) : Nat) : Int) = (0 : Int)))
  ((0 : Int) = (mvd j i))
  (cnd (decide ((((List.length j) : Nat) : Int) ≠ (0 : Int)))
    (cnd (decide ((0 : Int) ≤ (Int.tmod i (((List.length j) : Nat) : Int))))
      (cnd (decide ((Int.tmod i (((List.length j) : Nat) : Int)) < (((List.length j) : Nat) : Int)))
        ((List.getD j (Int.toNat (Int.tmod i (((List.length j) : Nat) : Int))) (0 : Int)) = (mvd j i))
        False)
      False)
    False))) = EXD Try.prog (conOf []) Try.f85 [.agg [.row 0, .row 1, .row 2], .cel (.int .i64 i)] [.ints .i64 j, .ints .i64 d, .ints .i64 u] [] (rmoved_res j d u i) := by kernel_rfl
theorem rmoved_holds (j : List Int) (d : List Int) (u : List Int) (i : Int) (p0 : (decide (0 ≤ i)) = true) : (cnd (decide ((((List.length j) : Nat) : Int) = (0 : Int)))
  ((0 : Int) = (mvd j i))
  (cnd (decide ((((List.length j) : Nat) : Int) ≠ (0 : Int)))
    (cnd (decide ((0 : Int) ≤ (Int.tmod i (((List.length j) : Nat) : Int))))
      (cnd (decide ((Int.tmod i (((List.length j) : Nat) : Int)) < (((List.length j) : Nat) : Int)))
        ((List.getD j (Int.toNat (Int.tmod i (((List.length j) : Nat) : Int))) (0 : Int)) = (mvd j i))
        False)
      False)
    False)) := by
  unfold mvd
  by_cases h : j.length = 0
  · rw [decide_eq_true (show ((j.length : Nat) : Int) = 0 by omega), if_pos h]
    rfl
  · simp only [decide_eq_true_eq] at p0
    have h0 := Int.emod_nonneg i (show ((j.length : Nat) : Int) ≠ 0 by omega)
    have h1 := Int.emod_lt_of_pos i (show 0 < ((j.length : Nat) : Int) by omega)
    rw [decide_eq_false (show ¬ ((j.length : Nat) : Int) = 0 by omega), if_neg h, tmod_pos p0, decide_eq_true (show ((j.length : Nat) : Int) ≠ 0 by omega), decide_eq_true h0, decide_eq_true h1]
    rfl
set_option maxHeartbeats 2000000 in
theorem rmoved_ok : SoundEnt Try.prog rmoved_e := by
  refine ent_of_ex (Γ := (conOf [])) (conOf_sound snil) (by kernel_rfl) Try.func85 (by kernel_rfl) (by kernel_rfl) (fun args rows caps res h ho => ?_)
  change rmoved_go args rows caps = some res at h
  unfold rmoved_go at h
  split at h
  · simp only [Option.some.injEq] at h
    subst h
    rename_i q3_ q0_ q1_ q2_
    obtain ⟨p0, _⟩ := ho
    exact EX.of (rmoved_tree q0_ q1_ q2_ q3_) (rmoved_holds q0_ q1_ q2_ q3_ p0)
  · cases h
def rabs_res (x : Int) : CRes := ⟨[isJ x], .one (.cel (.int .i64 (aab x))), []⟩
def rabs_go : List TV → List RowA → List (List CV) → Option CRes := fun args rows caps =>
  match args, rows, caps with
  | [.cel (.int .i64 x)], [], [] => some (rabs_res x)
  | _, _, _ => none
def rabs_e : Ent := ⟨84, [], rabs_go⟩
set_option maxRecDepth 100000 in
theorem rabs_tree (x : Int) : (((gmax x (Go.IntKind.wrap Go.IntKind.i64 ((0 : Int) - x))) = (aab x))) = EXD Try.prog (conOf []) Try.f84 [.cel (.int .i64 x)] [] [] (rabs_res x) := by kernel_rfl
theorem rabs_holds (x : Int) (p0 : (isJ x) = true) : ((gmax x (Go.IntKind.wrap Go.IntKind.i64 ((0 : Int) - x))) = (aab x)) := by
  exact gm_abs p0
set_option maxHeartbeats 2000000 in
theorem rabs_ok : SoundEnt Try.prog rabs_e := by
  refine ent_of_ex (Γ := (conOf [])) (conOf_sound snil) (by kernel_rfl) Try.func84 (by kernel_rfl) (by kernel_rfl) (fun args rows caps res h ho => ?_)
  change rabs_go args rows caps = some res at h
  unfold rabs_go at h
  split at h
  · simp only [Option.some.injEq] at h
    subst h
    rename_i q0_
    obtain ⟨p0, _⟩ := ho
    exact EX.of (rabs_tree q0_) (rabs_holds q0_ p0)
  · cases h
def rfar_res (j : List Int) (d : List Int) (u : List Int) : CRes := ⟨[decide ((j.length : Int) ≤ 1000000), decide ((u.length : Int) ≤ 1000000)], .one (.cel (.bool (!(j.all isJ && u.all isT)))), []⟩
def rfar_go : List TV → List RowA → List (List CV) → Option CRes := fun args rows caps =>
  match args, rows, caps with
  | [.agg [.row 0, .row 1, .row 2]], [.ints .i64 j, .ints .i64 d, .ints .i64 u], [] => some (rfar_res j d u)
  | _, _, _ => none
def rfar_e : Ent := ⟨82, [.ints .i64 [], .ints .i64 [], .ints .i64 []], rfar_go⟩
def rfar_L1_F (j : List Int) (d : List Int) (u : List Int) (i : Int) : St := ⟨40, [], [(3, (.one (.cel (.int .i64 i)))), (2, (.one (.cel (.bool Bool.false)))), (1, (.one (.cel (.ptr 0 0))))], [[(.row 0), (.row 1), (.row 2)]], [⟨(.ints .i64 j), none⟩, ⟨(.ints .i64 d), none⟩, ⟨(.ints .i64 u), none⟩], 0⟩
def rfar_L1_I (j : List Int) (d : List Int) (u : List Int) (i : Int) : Prop := (0 ≤ i ∧ i ≤ j.length) ∧ (j.all isJ = (j.drop i.toNat).all isJ)
def rfar_L1_m (j : List Int) (d : List Int) (u : List Int) (i : Int) : Nat := (j.length - i).toNat
def rfar_L1_N (j : List Int) (d : List Int) (u : List Int) (i' : Int) (st_ : St) : Prop := getI st_ 3 fun i => rfar_L1_I j d u i ∧ rfar_L1_m j d u i < rfar_L1_m j d u i' ∧ SubA st_ (rfar_L1_F j d u i)
def rfar_L1_E (j : List Int) (d : List Int) (u : List Int) (st_ : St) : Prop := getI st_ 3 fun i => rfar_L1_I j d u i ∧ SubA st_ (rfar_L1_F j d u i)
def rfar_L1_S1 (j : List Int) (d : List Int) (u : List Int) : St := ⟨40, [], [(3, (.one (.cel (.int .i64 (0 : Int))))), (2, (.one (.cel (.bool Bool.false)))), (1, (.one (.cel (.ptr 0 0)))), (0, (.one (.agg [(.row 0), (.row 1), (.row 2)])))], [[(.row 0), (.row 1), (.row 2)]], [⟨(.ints .i64 j), none⟩, ⟨(.ints .i64 d), none⟩, ⟨(.ints .i64 u), none⟩], 0⟩
def rfar_L2_F (j : List Int) (d : List Int) (u : List Int) (i : Int) (q : Int) : St := ⟨40, [], [(4, (.one (.cel (.int .i64 q)))), (2, (.one (.cel (.bool Bool.false)))), (1, (.one (.cel (.ptr 0 0))))], [[(.row 0), (.row 1), (.row 2)]], [⟨(.ints .i64 j), none⟩, ⟨(.ints .i64 d), none⟩, ⟨(.ints .i64 u), none⟩], 0⟩
def rfar_L2_I (j : List Int) (d : List Int) (u : List Int) (i : Int) (q : Int) : Prop := (0 ≤ q ∧ q ≤ u.length) ∧ (u.all isT = (u.drop q.toNat).all isT) ∧ (¬ i < j.length)
def rfar_L2_m (j : List Int) (d : List Int) (u : List Int) (i : Int) (q : Int) : Nat := (u.length - q).toNat
def rfar_L2_N (j : List Int) (d : List Int) (u : List Int) (i : Int) (q' : Int) (st_ : St) : Prop := getI st_ 4 fun q => rfar_L2_I j d u i q ∧ rfar_L2_m j d u i q < rfar_L2_m j d u i q' ∧ SubA st_ (rfar_L2_F j d u i q)
def rfar_L2_E (j : List Int) (d : List Int) (u : List Int) (i : Int) (st_ : St) : Prop := getI st_ 4 fun q => rfar_L2_I j d u i q ∧ SubA st_ (rfar_L2_F j d u i q)
def rfar_L2_S1 (j : List Int) (d : List Int) (u : List Int) (i : Int) : St := ⟨40, [], [(4, (.one (.cel (.int .i64 (0 : Int))))), (9, (.one (.cel (.bool (decide (i < (((List.length j) : Nat) : Int))))))), (8, (.one (.cel (.int .i64 (((List.length j) : Nat) : Int))))), (7, (.one (.cel (.row 0)))), (6, (.one (.cel (.ptr 0 0)))), (5, (.one (.cel (.int .i64 i)))), (3, (.one (.cel (.int .i64 i)))), (2, (.one (.cel (.bool Bool.false)))), (1, (.one (.cel (.ptr 0 0))))], [[(.row 0), (.row 1), (.row 2)]], [⟨(.ints .i64 j), none⟩, ⟨(.ints .i64 d), none⟩, ⟨(.ints .i64 u), none⟩], 0⟩
def rfar_L2_T (j : List Int) (d : List Int) (u : List Int) (i : Int) (q : Int) : Prop := (cnd (decide (q < (((List.length u) : Nat) : Int)))
  (cnd (decide ((0 : Int) ≤ q))
    (cnd (decide (q < (((List.length u) : Nat) : Int)))
      (cnd (!(isT (List.getD u (Int.toNat q) (0 : Int))))
        (Bool.true = (!((List.all j isJ) && (List.all u isT))))
        ((rfar_L2_I j d u i (Go.IntKind.wrap Go.IntKind.i64 (q + (1 : Int)))) ∧ (((rfar_L2_m j d u i (Go.IntKind.wrap Go.IntKind.i64 (q + (1 : Int)))) < (rfar_L2_m j d u i q)) ∧ (((Go.IntKind.wrap Go.IntKind.i64 (q + (1 : Int))) = (Go.IntKind.wrap Go.IntKind.i64 (q + (1 : Int)))) ∧ ((Bool.false = Bool.false) ∧ (True ∧ ((True ∧ (True ∧ True)) ∧ ((j = j) ∧ ((d = d) ∧ ((u = u) ∧ True))))))))))
      False)
    False)
  (Bool.false = (!((List.all j isJ) && (List.all u isT)))))
set_option maxRecDepth 100000 in
theorem rfar_L2_tree (j : List Int) (d : List Int) (u : List Int) (i : Int) (q : Int) : rfar_L2_T j d u i q = ex Try.prog (conOf [rtime18_e]) (subC (bodyOf Try.f82) [1, 1, 0, 1, 0, 0]) (nextE (rfar_L2_N j d u i q) (kont Try.prog (conOf [rtime18_e]) (bodyOf Try.f82) [1, 1, 0, 1, 0] (retPost Try.prog Try.f82 3 (rfar_res j d u)))) (rfar_L2_F j d u i q) := by kernel_rfl
set_option maxRecDepth 100000 in
theorem rfar_L2_round (j : List Int) (d : List Int) (u : List Int) (i : Int) (q : Int) (p0 : (decide ((j.length : Int) ≤ 1000000)) = true) (p1 : (decide ((u.length : Int) ≤ 1000000)) = true) (hI_L1 : rfar_L1_I j d u i) (hI_L2 : rfar_L2_I j d u i q) : rfar_L2_T j d u i q := by
  obtain ⟨⟨c1, c2⟩, c3⟩ := hI_L1
  obtain ⟨⟨a1, a2⟩, a3, a4⟩ := hI_L2
  simp only [decide_eq_true_eq] at p1
  unfold rfar_L2_T
  rw [List.drop_eq_nil_of_le (by omega)] at c3
  rw [c3]
  by_cases hi : q < u.length
  · rw [drop_consI a1 hi, List.all_cons] at a3
    have hF : u.all isT = (u.drop (q.toNat + 1)).all isT → rfar_L2_I j d u i (q + 1) := fun h => ⟨⟨by omega, by omega⟩, by rw [show (q + 1).toNat = q.toNat + 1 by omega]; exact h, a4⟩
    have hμ : rfar_L2_m j d u i (q + 1) < rfar_L2_m j d u i q := by unfold rfar_L2_m; omega
    rw [decide_eq_true hi, decide_eq_true a1, w64 (n := q + 1) (by omega) (by omega)]
    cases hc : isT (u.getD q.toNat 0) with
    | false =>
      rw [hc] at a3
      rw [a3]
      rfl
    | true =>
      rw [hc, Bool.true_and] at a3
      exact ⟨hF a3, hμ, by simp⟩
  · rw [decide_eq_false hi]
    rw [List.drop_eq_nil_of_le (by omega)] at a3
    rw [a3]
    rfl
set_option maxRecDepth 100000 in
theorem rfar_L2_entry1 (j : List Int) (d : List Int) (u : List Int) (i : Int) : (((rfar_L2_I j d u i (0 : Int)) ∧ (((0 : Int) = (0 : Int)) ∧ ((Bool.false = Bool.false) ∧ (True ∧ ((True ∧ (True ∧ True)) ∧ ((j = j) ∧ ((d = d) ∧ ((u = u) ∧ True))))))))) = rfar_L2_E j d u i (rfar_L2_S1 j d u i) := by kernel_rfl
theorem rfar_L2_1 (j : List Int) (d : List Int) (u : List Int) (i : Int) (p0 : (decide ((j.length : Int) ≤ 1000000)) = true) (p1 : (decide ((u.length : Int) ≤ 1000000)) = true) (hI_L1 : rfar_L1_I j d u i) (h : ((rfar_L2_I j d u i (0 : Int)) ∧ (((0 : Int) = (0 : Int)) ∧ ((Bool.false = Bool.false) ∧ (True ∧ ((True ∧ (True ∧ True)) ∧ ((j = j) ∧ ((d = d) ∧ ((u = u) ∧ True))))))))) : LoopP (ex Try.prog (conOf [rtime18_e]) (subC (bodyOf Try.f82) [1, 1, 0, 1, 0, 0])) (kont Try.prog (conOf [rtime18_e]) (bodyOf Try.f82) [1, 1, 0, 1, 0] (retPost Try.prog Try.f82 3 (rfar_res j d u))) (rfar_L2_S1 j d u i) := by
  have hE : rfar_L2_E j d u i (rfar_L2_S1 j d u i) := Eq.mp (rfar_L2_entry1 j d u i) h
  unfold rfar_L2_E at hE
  obtain ⟨q, hE⟩ := getI_of hE
  refine loop_of (α := (Int)) (fun xx_ => rfar_L2_F j d u i xx_) (fun xx_ => rfar_L2_I j d u i xx_) (fun xx_ => rfar_L2_m j d u i xx_) (fun xx_ => rfar_L2_N j d u i xx_) (fun xx_ => rfar_L2_T j d u i xx_) (fun xx_ s_ h => ?_) ⟨q, hE⟩ (fun xx_ => rfar_L2_tree j d u i xx_) (fun xx_ hI => rfar_L2_round j d u i xx_ p0 p1 hI_L1 hI)
  unfold rfar_L2_N at h
  obtain ⟨q, h⟩ := getI_of h
  exact ⟨q, h⟩
def rfar_L1_T (j : List Int) (d : List Int) (u : List Int) (i : Int) : Prop := (cnd (decide (i < (((List.length j) : Nat) : Int)))
  (cnd (decide ((0 : Int) ≤ i))
    (cnd (decide (i < (((List.length j) : Nat) : Int)))
      (cnd ((!((decide ((List.getD j (Int.toNat i) (0 : Int)) < (-(1099511627776 : Int)))) == Bool.false)) || (decide ((0 : Int) ≤ i)))
        (cnd ((!((decide ((List.getD j (Int.toNat i) (0 : Int)) < (-(1099511627776 : Int)))) == Bool.false)) || (decide (i < (((List.length j) : Nat) : Int))))
          (cnd ((decide ((List.getD j (Int.toNat i) (0 : Int)) < (-(1099511627776 : Int)))) || (decide ((1099511627776 : Int) < (List.getD j (Int.toNat i) (0 : Int)))))
            (Bool.true = (!((List.all j isJ) && (List.all u isT))))
            ((rfar_L1_I j d u (Go.IntKind.wrap Go.IntKind.i64 (i + (1 : Int)))) ∧ (((rfar_L1_m j d u (Go.IntKind.wrap Go.IntKind.i64 (i + (1 : Int)))) < (rfar_L1_m j d u i)) ∧ (((Go.IntKind.wrap Go.IntKind.i64 (i + (1 : Int))) = (Go.IntKind.wrap Go.IntKind.i64 (i + (1 : Int)))) ∧ ((Bool.false = Bool.false) ∧ (True ∧ ((True ∧ (True ∧ True)) ∧ ((j = j) ∧ ((d = d) ∧ ((u = u) ∧ True))))))))))
          False)
        False)
      False)
    False)
  (LoopP (ex Try.prog (conOf [rtime18_e]) (subC (bodyOf Try.f82) [1, 1, 0, 1, 0, 0])) (kont Try.prog (conOf [rtime18_e]) (bodyOf Try.f82) [1, 1, 0, 1, 0] (retPost Try.prog Try.f82 3 (rfar_res j d u))) (rfar_L2_S1 j d u i)))
set_option maxRecDepth 100000 in
theorem rfar_L1_tree (j : List Int) (d : List Int) (u : List Int) (i : Int) : rfar_L1_T j d u i = ex Try.prog (conOf [rtime18_e]) (subC (bodyOf Try.f82) [1, 0, 1, 0, 0]) (nextE (rfar_L1_N j d u i) (kont Try.prog (conOf [rtime18_e]) (bodyOf Try.f82) [1, 0, 1, 0] (retPost Try.prog Try.f82 3 (rfar_res j d u)))) (rfar_L1_F j d u i) := by kernel_rfl
set_option maxRecDepth 100000 in
theorem rfar_L1_round (j : List Int) (d : List Int) (u : List Int) (i : Int) (p0 : (decide ((j.length : Int) ≤ 1000000)) = true) (p1 : (decide ((u.length : Int) ≤ 1000000)) = true) (hI_L1 : rfar_L1_I j d u i) : rfar_L1_T j d u i := by
  obtain ⟨⟨a1, a2⟩, a3⟩ := hI_L1
  simp only [decide_eq_true_eq] at p0
  unfold rfar_L1_T
  by_cases hi : i < j.length
  · rw [drop_consI a1 hi, List.all_cons] at a3
    have hF : j.all isJ = (j.drop (i.toNat + 1)).all isJ → rfar_L1_I j d u (i + 1) := fun h => ⟨⟨by omega, by omega⟩, by rw [show (i + 1).toNat = i.toNat + 1 by omega]; exact h⟩
    have hμ : rfar_L1_m j d u (i + 1) < rfar_L1_m j d u i := by unfold rfar_L1_m; omega
    rw [decide_eq_true hi, decide_eq_true a1, w64 (n := i + 1) (by omega) (by omega)]
    have hx : (decide (j.getD i.toNat 0 < -1099511627776) || decide (1099511627776 < j.getD i.toNat 0)) = !isJ (j.getD i.toNat 0) := by
      unfold isJ
      rw [Bool.eq_iff_iff]
      simp only [Bool.or_eq_true, decide_eq_true_eq, Bool.not_eq_true', Bool.and_eq_false_iff, decide_eq_false_iff_not]
      omega
    rw [hx, Bool.or_true]
    cases hc : isJ (j.getD i.toNat 0) with
    | false =>
      rw [hc] at a3
      rw [a3]
      rfl
    | true =>
      rw [hc, Bool.true_and] at a3
      exact ⟨hF a3, hμ, by simp⟩
  · rw [decide_eq_false hi]
    exact rfar_L2_1 j d u i (decide_eq_true p0) p1 ⟨⟨a1, a2⟩, a3⟩ ⟨⟨⟨by omega, by omega⟩, rfl, hi⟩, by simp⟩
set_option maxRecDepth 100000 in
theorem rfar_L1_entry1 (j : List Int) (d : List Int) (u : List Int) : (((rfar_L1_I j d u (0 : Int)) ∧ (((0 : Int) = (0 : Int)) ∧ ((Bool.false = Bool.false) ∧ (True ∧ ((True ∧ (True ∧ True)) ∧ ((j = j) ∧ ((d = d) ∧ ((u = u) ∧ True))))))))) = rfar_L1_E j d u (rfar_L1_S1 j d u) := by kernel_rfl
theorem rfar_L1_1 (j : List Int) (d : List Int) (u : List Int) (p0 : (decide ((j.length : Int) ≤ 1000000)) = true) (p1 : (decide ((u.length : Int) ≤ 1000000)) = true) (h : ((rfar_L1_I j d u (0 : Int)) ∧ (((0 : Int) = (0 : Int)) ∧ ((Bool.false = Bool.false) ∧ (True ∧ ((True ∧ (True ∧ True)) ∧ ((j = j) ∧ ((d = d) ∧ ((u = u) ∧ True))))))))) : LoopP (ex Try.prog (conOf [rtime18_e]) (subC (bodyOf Try.f82) [1, 0, 1, 0, 0])) (kont Try.prog (conOf [rtime18_e]) (bodyOf Try.f82) [1, 0, 1, 0] (retPost Try.prog Try.f82 3 (rfar_res j d u))) (rfar_L1_S1 j d u) := by
  have hE : rfar_L1_E j d u (rfar_L1_S1 j d u) := Eq.mp (rfar_L1_entry1 j d u) h
  unfold rfar_L1_E at hE
  obtain ⟨i, hE⟩ := getI_of hE
  refine loop_of (α := (Int)) (fun xx_ => rfar_L1_F j d u xx_) (fun xx_ => rfar_L1_I j d u xx_) (fun xx_ => rfar_L1_m j d u xx_) (fun xx_ => rfar_L1_N j d u xx_) (fun xx_ => rfar_L1_T j d u xx_) (fun xx_ s_ h => ?_) ⟨i, hE⟩ (fun xx_ => rfar_L1_tree j d u xx_) (fun xx_ hI => rfar_L1_round j d u xx_ p0 p1 hI)
  unfold rfar_L1_N at h
  obtain ⟨i, h⟩ := getI_of h
  exact ⟨i, h⟩
set_option maxRecDepth 100000 in
theorem rfar_tree (j : List Int) (d : List Int) (u : List Int) : ((LoopP (ex Try.prog (conOf [rtime18_e]) (subC (bodyOf Try.f82) [1, 0, 1, 0, 0])) (kont Try.prog (conOf [rtime18_e]) (bodyOf Try.f82) [1, 0, 1, 0] (retPost Try.prog Try.f82 3 (rfar_res j d u))) (rfar_L1_S1 j d u))) = EXD Try.prog (conOf [rtime18_e]) Try.f82 [.agg [.row 0, .row 1, .row 2]] [.ints .i64 j, .ints .i64 d, .ints .i64 u] [] (rfar_res j d u) := by kernel_rfl
theorem rfar_holds (j : List Int) (d : List Int) (u : List Int) (p0 : (decide ((j.length : Int) ≤ 1000000)) = true) (p1 : (decide ((u.length : Int) ≤ 1000000)) = true) : (LoopP (ex Try.prog (conOf [rtime18_e]) (subC (bodyOf Try.f82) [1, 0, 1, 0, 0])) (kont Try.prog (conOf [rtime18_e]) (bodyOf Try.f82) [1, 0, 1, 0] (retPost Try.prog Try.f82 3 (rfar_res j d u))) (rfar_L1_S1 j d u)) := by
  exact rfar_L1_1 j d u p0 p1 ⟨⟨⟨by omega, by omega⟩, rfl⟩, by simp⟩
set_option maxHeartbeats 2000000 in
theorem rfar_ok : SoundEnt Try.prog rfar_e := by
  refine ent_of_ex (Γ := (conOf [rtime18_e])) (conOf_sound (scons rtime18_ok snil)) (by kernel_rfl) Try.func82 (by kernel_rfl) (by kernel_rfl) (fun args rows caps res h ho => ?_)
  change rfar_go args rows caps = some res at h
  unfold rfar_go at h
  split at h
  · simp only [Option.some.injEq] at h
    subst h
    rename_i q0_ q1_ q2_
    obtain ⟨p0, p1, _⟩ := ho
    exact EX.of (rfar_tree q0_ q1_ q2_) (rfar_holds q0_ q1_ q2_ p0 p1)
  · cases h
def ltR : Int → List Int → Int
  | m, [] => m
  | m, x :: L => ltR (if m < 0 ∨ x < m then x else m) L
theorem ltR_pos : ∀ (L : List Int) (m : Int), 0 ≤ m → (∀ x ∈ L, 0 ≤ x ∧ x ≤ 524288) → ltR m L = lst m L
  | [], _, _, _ => rfl
  | x :: L, m, h, hx => by
    have h1 := hx x (by simp)
    rw [ltR, lst, ltR_pos L _ (by split <;> omega) (fun y hy => hx y (by simp [hy]))]
    congr 1
    split <;> omega
theorem ltR_lst {L : List Int} (hn : L ≠ []) (hx : ∀ x ∈ L, 0 ≤ x ∧ x ≤ 524288) : ltR (-1) L = lst 4611686018427387904 L ∧ grt (-1) L = grt 0 L := by
  match L, hn with
  | x :: L, _ =>
    have h1 := hx x (by simp)
    rw [ltR, lst, if_pos (by omega), ltR_pos L _ (by omega) (fun y hy => hx y (by simp [hy])), grt, grt, show min 4611686018427387904 x = x by omega, show max (-1) x = max 0 x by omega]
    exact ⟨rfl, rfl⟩
def rsteady_res (s : Int) (m : List (List Int)) (a : Int) (b : Int) : CRes := ⟨[mValid s m, decide (0 ≤ a) && decide (a < b) && decide (b ≤ 1099511627776)], .one (.cel (.bool (!decide (lsI m a b = 0) && decide (16 * grI m a b ≤ 17 * lsI m a b)))), []⟩
def rsteady_go : List TV → List RowA → List (List CV) → Option CRes := fun args rows caps =>
  match args, rows, caps with
  | [.agg [.int .i64 s, .row 0], .cel (.int .i64 a), .cel (.int .i64 b)], [.recs [.int .i64, .int .i64] m], [] => some (rsteady_res s m a b)
  | _, _, _ => none
def rsteady_e : Ent := ⟨86, [.recs [.int .i64, .int .i64] []], rsteady_go⟩
def rsteady_L1_F (s : Int) (m : List (List Int)) (a : Int) (b : Int) (i : Int) (t : Int) (x : Int) (y : Int) : St := ⟨67, [], [(10, (.one (.cel (.int .i64 i)))), (9, (.one (.cel (.int .i64 t)))), (8, (.one (.cel (.int .i64 y)))), (7, (.one (.cel (.int .i64 x)))), (6, (.one (.cel (.bool Bool.false)))), (3, (.one (.cel (.ptr 0 0)))), (1, (.one (.cel (.int .i64 a)))), (2, (.one (.cel (.int .i64 b))))], [[(.int .i64 s), (.row 0)]], [⟨(.recs [.int .i64, .int .i64] m), none⟩], 0⟩
def rsteady_L1_I (s : Int) (m : List (List Int)) (a : Int) (b : Int) (i : Int) (t : Int) (x : Int) (y : Int) : Prop := (0 ≤ i ∧ i ≤ m.length + 1) ∧ (i ≤ m.length → 0 ≤ t ∧ t ≤ 1099511627776 ∧ vL t (m.drop i.toNat) = true ∧ ltR x (nts t (m.drop i.toNat) a b) = lsI m a b ∧ grt y (nts t (m.drop i.toNat) a b) = grI m a b) ∧ (i = m.length + 1 → x = lsI m a b ∧ y = grI m a b)
def rsteady_L1_m (s : Int) (m : List (List Int)) (a : Int) (b : Int) (i : Int) (t : Int) (x : Int) (y : Int) : Nat := (m.length + 1 - i).toNat
def rsteady_L1_N (s : Int) (m : List (List Int)) (a : Int) (b : Int) (i' : Int) (t' : Int) (x' : Int) (y' : Int) (st_ : St) : Prop := getI st_ 10 fun i => getI st_ 9 fun t => getI st_ 7 fun x => getI st_ 8 fun y => rsteady_L1_I s m a b i t x y ∧ rsteady_L1_m s m a b i t x y < rsteady_L1_m s m a b i' t' x' y' ∧ SubA st_ (rsteady_L1_F s m a b i t x y)
def rsteady_L1_E (s : Int) (m : List (List Int)) (a : Int) (b : Int) (st_ : St) : Prop := getI st_ 10 fun i => getI st_ 9 fun t => getI st_ 7 fun x => getI st_ 8 fun y => rsteady_L1_I s m a b i t x y ∧ SubA st_ (rsteady_L1_F s m a b i t x y)
def rsteady_L1_S1 (s : Int) (m : List (List Int)) (a : Int) (b : Int) : St := ⟨67, [], [(10, (.one (.cel (.int .i64 (0 : Int))))), (9, (.one (.cel (.int .i64 (0 : Int))))), (8, (.one (.cel (.int .i64 (-(1 : Int)))))), (7, (.one (.cel (.int .i64 (-(1 : Int)))))), (6, (.one (.cel (.bool Bool.false)))), (3, (.one (.cel (.ptr 0 0)))), (0, (.one (.agg [(.int .i64 s), (.row 0)]))), (1, (.one (.cel (.int .i64 a)))), (2, (.one (.cel (.int .i64 b))))], [[(.int .i64 s), (.row 0)]], [⟨(.recs [.int .i64, .int .i64] m), none⟩], 0⟩
def rsteady_L1_T (s : Int) (m : List (List Int)) (a : Int) (b : Int) (i : Int) (t : Int) (x : Int) (y : Int) : Prop := (cnd (decide (i ≤ (((List.length m) : Nat) : Int)))
  (cnd (decide (i < (((List.length m) : Nat) : Int)))
    (cnd (decide ((0 : Int) ≤ i))
      (cnd (decide (i < (((List.length m) : Nat) : Int)))
        (cnd (decide ((0 : Int) ≤ i))
          (cnd (decide (i < (((List.length m) : Nat) : Int)))
            (cnd (decide ((gmax t a) < (gmin (Go.IntKind.wrap Go.IntKind.i64 (t + (List.getD (List.getD m (Int.toNat i) ([] : List Int)) 0 (0 : Int)))) b)))
              (cnd ((decide (x < (0 : Int))) || (decide ((List.getD (List.getD m (Int.toNat i) ([] : List Int)) (0 + 1) (0 : Int)) < x)))
                ((rsteady_L1_I s m a b (Go.IntKind.wrap Go.IntKind.i64 (i + (1 : Int))) (Go.IntKind.wrap Go.IntKind.i64 (t + (List.getD (List.getD m (Int.toNat i) ([] : List Int)) 0 (0 : Int)))) (List.getD (List.getD m (Int.toNat i) ([] : List Int)) (0 + 1) (0 : Int)) (gmax y (List.getD (List.getD m (Int.toNat i) ([] : List Int)) (0 + 1) (0 : Int)))) ∧ (((rsteady_L1_m s m a b (Go.IntKind.wrap Go.IntKind.i64 (i + (1 : Int))) (Go.IntKind.wrap Go.IntKind.i64 (t + (List.getD (List.getD m (Int.toNat i) ([] : List Int)) 0 (0 : Int)))) (List.getD (List.getD m (Int.toNat i) ([] : List Int)) (0 + 1) (0 : Int)) (gmax y (List.getD (List.getD m (Int.toNat i) ([] : List Int)) (0 + 1) (0 : Int)))) < (rsteady_L1_m s m a b i t x y)) ∧ (((Go.IntKind.wrap Go.IntKind.i64 (i + (1 : Int))) = (Go.IntKind.wrap Go.IntKind.i64 (i + (1 : Int)))) ∧ (((Go.IntKind.wrap Go.IntKind.i64 (t + (List.getD (List.getD m (Int.toNat i) ([] : List Int)) 0 (0 : Int)))) = (Go.IntKind.wrap Go.IntKind.i64 (t + (List.getD (List.getD m (Int.toNat i) ([] : List Int)) 0 (0 : Int))))) ∧ (((gmax y (List.getD (List.getD m (Int.toNat i) ([] : List Int)) (0 + 1) (0 : Int))) = (gmax y (List.getD (List.getD m (Int.toNat i) ([] : List Int)) (0 + 1) (0 : Int)))) ∧ (((List.getD (List.getD m (Int.toNat i) ([] : List Int)) (0 + 1) (0 : Int)) = (List.getD (List.getD m (Int.toNat i) ([] : List Int)) (0 + 1) (0 : Int))) ∧ ((Bool.false = Bool.false) ∧ (True ∧ ((a = a) ∧ ((b = b) ∧ (((s = s) ∧ True) ∧ ((m = m) ∧ True))))))))))))
                ((rsteady_L1_I s m a b (Go.IntKind.wrap Go.IntKind.i64 (i + (1 : Int))) (Go.IntKind.wrap Go.IntKind.i64 (t + (List.getD (List.getD m (Int.toNat i) ([] : List Int)) 0 (0 : Int)))) x (gmax y (List.getD (List.getD m (Int.toNat i) ([] : List Int)) (0 + 1) (0 : Int)))) ∧ (((rsteady_L1_m s m a b (Go.IntKind.wrap Go.IntKind.i64 (i + (1 : Int))) (Go.IntKind.wrap Go.IntKind.i64 (t + (List.getD (List.getD m (Int.toNat i) ([] : List Int)) 0 (0 : Int)))) x (gmax y (List.getD (List.getD m (Int.toNat i) ([] : List Int)) (0 + 1) (0 : Int)))) < (rsteady_L1_m s m a b i t x y)) ∧ (((Go.IntKind.wrap Go.IntKind.i64 (i + (1 : Int))) = (Go.IntKind.wrap Go.IntKind.i64 (i + (1 : Int)))) ∧ (((Go.IntKind.wrap Go.IntKind.i64 (t + (List.getD (List.getD m (Int.toNat i) ([] : List Int)) 0 (0 : Int)))) = (Go.IntKind.wrap Go.IntKind.i64 (t + (List.getD (List.getD m (Int.toNat i) ([] : List Int)) 0 (0 : Int))))) ∧ (((gmax y (List.getD (List.getD m (Int.toNat i) ([] : List Int)) (0 + 1) (0 : Int))) = (gmax y (List.getD (List.getD m (Int.toNat i) ([] : List Int)) (0 + 1) (0 : Int)))) ∧ ((x = x) ∧ ((Bool.false = Bool.false) ∧ (True ∧ ((a = a) ∧ ((b = b) ∧ (((s = s) ∧ True) ∧ ((m = m) ∧ True)))))))))))))
              ((rsteady_L1_I s m a b (Go.IntKind.wrap Go.IntKind.i64 (i + (1 : Int))) (Go.IntKind.wrap Go.IntKind.i64 (t + (List.getD (List.getD m (Int.toNat i) ([] : List Int)) 0 (0 : Int)))) x y) ∧ (((rsteady_L1_m s m a b (Go.IntKind.wrap Go.IntKind.i64 (i + (1 : Int))) (Go.IntKind.wrap Go.IntKind.i64 (t + (List.getD (List.getD m (Int.toNat i) ([] : List Int)) 0 (0 : Int)))) x y) < (rsteady_L1_m s m a b i t x y)) ∧ (((Go.IntKind.wrap Go.IntKind.i64 (i + (1 : Int))) = (Go.IntKind.wrap Go.IntKind.i64 (i + (1 : Int)))) ∧ (((Go.IntKind.wrap Go.IntKind.i64 (t + (List.getD (List.getD m (Int.toNat i) ([] : List Int)) 0 (0 : Int)))) = (Go.IntKind.wrap Go.IntKind.i64 (t + (List.getD (List.getD m (Int.toNat i) ([] : List Int)) 0 (0 : Int))))) ∧ ((y = y) ∧ ((x = x) ∧ ((Bool.false = Bool.false) ∧ (True ∧ ((a = a) ∧ ((b = b) ∧ (((s = s) ∧ True) ∧ ((m = m) ∧ True)))))))))))))
            False)
          False)
        False)
      False)
    (cnd (decide ((gmax t a) < (gmin (1099511627777 : Int) b)))
      (cnd ((decide (x < (0 : Int))) || (decide ((0 : Int) < x)))
        ((rsteady_L1_I s m a b (Go.IntKind.wrap Go.IntKind.i64 (i + (1 : Int))) (1099511627777 : Int) (0 : Int) (gmax y (0 : Int))) ∧ (((rsteady_L1_m s m a b (Go.IntKind.wrap Go.IntKind.i64 (i + (1 : Int))) (1099511627777 : Int) (0 : Int) (gmax y (0 : Int))) < (rsteady_L1_m s m a b i t x y)) ∧ (((Go.IntKind.wrap Go.IntKind.i64 (i + (1 : Int))) = (Go.IntKind.wrap Go.IntKind.i64 (i + (1 : Int)))) ∧ (((1099511627777 : Int) = (1099511627777 : Int)) ∧ (((gmax y (0 : Int)) = (gmax y (0 : Int))) ∧ (((0 : Int) = (0 : Int)) ∧ ((Bool.false = Bool.false) ∧ (True ∧ ((a = a) ∧ ((b = b) ∧ (((s = s) ∧ True) ∧ ((m = m) ∧ True))))))))))))
        ((rsteady_L1_I s m a b (Go.IntKind.wrap Go.IntKind.i64 (i + (1 : Int))) (1099511627777 : Int) x (gmax y (0 : Int))) ∧ (((rsteady_L1_m s m a b (Go.IntKind.wrap Go.IntKind.i64 (i + (1 : Int))) (1099511627777 : Int) x (gmax y (0 : Int))) < (rsteady_L1_m s m a b i t x y)) ∧ (((Go.IntKind.wrap Go.IntKind.i64 (i + (1 : Int))) = (Go.IntKind.wrap Go.IntKind.i64 (i + (1 : Int)))) ∧ (((1099511627777 : Int) = (1099511627777 : Int)) ∧ (((gmax y (0 : Int)) = (gmax y (0 : Int))) ∧ ((x = x) ∧ ((Bool.false = Bool.false) ∧ (True ∧ ((a = a) ∧ ((b = b) ∧ (((s = s) ∧ True) ∧ ((m = m) ∧ True)))))))))))))
      ((rsteady_L1_I s m a b (Go.IntKind.wrap Go.IntKind.i64 (i + (1 : Int))) (1099511627777 : Int) x y) ∧ (((rsteady_L1_m s m a b (Go.IntKind.wrap Go.IntKind.i64 (i + (1 : Int))) (1099511627777 : Int) x y) < (rsteady_L1_m s m a b i t x y)) ∧ (((Go.IntKind.wrap Go.IntKind.i64 (i + (1 : Int))) = (Go.IntKind.wrap Go.IntKind.i64 (i + (1 : Int)))) ∧ (((1099511627777 : Int) = (1099511627777 : Int)) ∧ ((y = y) ∧ ((x = x) ∧ ((Bool.false = Bool.false) ∧ (True ∧ ((a = a) ∧ ((b = b) ∧ (((s = s) ∧ True) ∧ ((m = m) ∧ True))))))))))))))
  (((decide ((0 : Int) < x)) && (decide ((Go.IntKind.wrap Go.IntKind.i64 ((16 : Int) * y)) ≤ (Go.IntKind.wrap Go.IntKind.i64 ((17 : Int) * x))))) = ((!(decide ((lsI m a b) = (0 : Int)))) && (decide (((16 : Int) * (grI m a b)) ≤ ((17 : Int) * (lsI m a b)))))))
set_option maxRecDepth 100000 in
theorem rsteady_L1_tree (s : Int) (m : List (List Int)) (a : Int) (b : Int) (i : Int) (t : Int) (x : Int) (y : Int) : rsteady_L1_T s m a b i t x y = ex Try.prog (conOf []) (subC (bodyOf Try.f86) [1, 1, 1, 0, 1, 0, 0]) (nextE (rsteady_L1_N s m a b i t x y) (kont Try.prog (conOf []) (bodyOf Try.f86) [1, 1, 1, 0, 1, 0] (retPost Try.prog Try.f86 1 (rsteady_res s m a b)))) (rsteady_L1_F s m a b i t x y) := by kernel_rfl
set_option maxRecDepth 100000 in
theorem rsteady_L1_round (s : Int) (m : List (List Int)) (a : Int) (b : Int) (i : Int) (t : Int) (x : Int) (y : Int) (p0 : (mValid s m) = true) (p1 : (decide (0 ≤ a) && decide (a < b) && decide (b ≤ 1099511627776)) = true) (hI_L1 : rsteady_L1_I s m a b i t x y) : rsteady_L1_T s m a b i t x y := by
  obtain ⟨⟨a1, a2⟩, a3, a4⟩ := hI_L1
  have hp1 := p1
  simp only [Bool.and_eq_true, decide_eq_true_eq] at hp1
  obtain ⟨⟨q1, q2⟩, q3⟩ := hp1
  obtain ⟨v1, v2, v3⟩ := mV_iff.1 p0
  have hb := lg_bd p0 q1 q2
  have hF : ∀ t' x' y' : Int, i < m.length → (0 ≤ t' ∧ t' ≤ 1099511627776 ∧ vL t' (m.drop (i.toNat + 1)) = true ∧ ltR x' (nts t' (m.drop (i.toNat + 1)) a b) = lsI m a b ∧ grt y' (nts t' (m.drop (i.toNat + 1)) a b) = grI m a b) → rsteady_L1_I s m a b (i + 1) t' x' y' := fun t' x' y' h1 h2 => ⟨⟨by omega, by omega⟩, fun _ => by rw [show (i + 1).toNat = i.toNat + 1 by omega]; exact h2, fun h => by
    rw [List.drop_eq_nil_of_le (by omega)] at h2
    omega⟩
  have hG : ∀ t' x' y' : Int, i = m.length → x' = lsI m a b ∧ y' = grI m a b → rsteady_L1_I s m a b (i + 1) t' x' y' := fun t' x' y' h1 h2 => ⟨⟨by omega, by omega⟩, fun h => by omega, fun _ => h2⟩
  have hμ : ∀ t' x' y', i ≤ m.length → rsteady_L1_m s m a b (i + 1) t' x' y' < rsteady_L1_m s m a b i t x y := fun _ _ _ h => by unfold rsteady_L1_m; omega
  unfold rsteady_L1_T
  by_cases hi : i ≤ m.length
  · obtain ⟨b1, b2, b3, b4, b5⟩ := a3 hi
    rw [decide_eq_true hi, w64 (n := i + 1) (by omega) (by omega)]
    by_cases hl : i < m.length
    · rw [drop_consR a1 hl] at b3 b4 b5
      obtain ⟨⟨r1', r2, r3, r4⟩, r5, r6⟩ := vL_cons b3
      rw [decide_eq_true hl, decide_eq_true a1]
      have e0 : (m.getD i.toNat []).getD 0 0 = r0 (m.getD i.toNat []) := rfl
      have e1 : (m.getD i.toNat []).getD (0 + 1) 0 = r1 (m.getD i.toNat []) := rfl
      rw [e0, e1, w64 (n := t + r0 (m.getD i.toNat [])) (by omega) (by omega)]
      generalize m.getD i.toNat [] = r at *
      have hc : decide (gmax t a < gmin (t + r0 r) b) = decide (t < b ∧ a < t + r0 r) := by
        rw [decide_eq_decide]
        unfold gmax gmin
        split <;> split <;> omega
      rw [hc]
      by_cases h : t < b ∧ a < t + r0 r
      · rw [nts, if_pos h] at b4 b5
        rw [ltR] at b4
        rw [grt] at b5
        rw [decide_eq_true h]
        have hg : gmax y (r1 r) = max y (r1 r) := by unfold gmax; omega
        rw [hg]
        by_cases hx : x < 0 ∨ r1 r < x
        · have hj : (decide (x < 0) || decide (r1 r < x)) = true := by simpa using hx
          rw [if_pos hx] at b4
          rw [hj]
          exact ⟨hF _ _ _ hl ⟨by omega, r5, r6, b4, b5⟩, hμ _ _ _ hi, by simp⟩
        · have hj : (decide (x < 0) || decide (r1 r < x)) = false := by simp; omega
          rw [if_neg hx] at b4
          rw [hj]
          exact ⟨hF _ _ _ hl ⟨by omega, r5, r6, b4, b5⟩, hμ _ _ _ hi, by simp⟩
      · rw [nts, if_neg h] at b4 b5
        rw [decide_eq_false h]
        exact ⟨hF _ _ _ hl ⟨by omega, r5, r6, b4, b5⟩, hμ _ _ _ hi, by simp⟩
    · rw [List.drop_eq_nil_of_le (by omega), nts] at b4 b5
      rw [decide_eq_false hl]
      have hc : decide (gmax t a < gmin 1099511627777 b) = decide (t < b) := by
        rw [decide_eq_decide]
        unfold gmax gmin
        split <;> split <;> omega
      rw [hc]
      by_cases h : t < b
      · rw [if_pos h] at b4 b5
        simp only [ltR, grt] at b4 b5
        rw [decide_eq_true h]
        have hg : gmax y 0 = max y 0 := by unfold gmax; omega
        rw [hg]
        by_cases hx : x < 0 ∨ 0 < x
        · have hj : (decide (x < 0) || decide (0 < x)) = true := by simpa using hx
          rw [if_pos hx] at b4
          rw [hj]
          exact ⟨hG _ _ _ (by omega) ⟨b4, b5⟩, hμ _ _ _ hi, by simp⟩
        · have hj : (decide (x < 0) || decide (0 < x)) = false := by simp; omega
          rw [if_neg hx] at b4
          rw [hj]
          exact ⟨hG _ _ _ (by omega) ⟨b4, b5⟩, hμ _ _ _ hi, by simp⟩
      · rw [if_neg h] at b4 b5
        simp only [ltR, grt] at b4 b5
        rw [decide_eq_false h]
        exact ⟨hG _ _ _ (by omega) ⟨b4, b5⟩, hμ _ _ _ hi, by simp⟩
  · obtain ⟨b1, b2⟩ := a4 (by omega)
    rw [decide_eq_false hi, b1, b2, w64 (n := 16 * grI m a b) (by omega) (by omega), w64 (n := 17 * lsI m a b) (by omega) (by omega)]
    show _ = _
    congr 1
    rw [Bool.eq_iff_iff]
    simp
    omega
set_option maxRecDepth 100000 in
theorem rsteady_L1_entry1 (s : Int) (m : List (List Int)) (a : Int) (b : Int) : (((rsteady_L1_I s m a b (0 : Int) (0 : Int) (-(1 : Int)) (-(1 : Int))) ∧ (((0 : Int) = (0 : Int)) ∧ (((0 : Int) = (0 : Int)) ∧ (((-(1 : Int)) = (-(1 : Int))) ∧ (((-(1 : Int)) = (-(1 : Int))) ∧ ((Bool.false = Bool.false) ∧ (True ∧ ((a = a) ∧ ((b = b) ∧ (((s = s) ∧ True) ∧ ((m = m) ∧ True)))))))))))) = rsteady_L1_E s m a b (rsteady_L1_S1 s m a b) := by kernel_rfl
theorem rsteady_L1_1 (s : Int) (m : List (List Int)) (a : Int) (b : Int) (p0 : (mValid s m) = true) (p1 : (decide (0 ≤ a) && decide (a < b) && decide (b ≤ 1099511627776)) = true) (h : ((rsteady_L1_I s m a b (0 : Int) (0 : Int) (-(1 : Int)) (-(1 : Int))) ∧ (((0 : Int) = (0 : Int)) ∧ (((0 : Int) = (0 : Int)) ∧ (((-(1 : Int)) = (-(1 : Int))) ∧ (((-(1 : Int)) = (-(1 : Int))) ∧ ((Bool.false = Bool.false) ∧ (True ∧ ((a = a) ∧ ((b = b) ∧ (((s = s) ∧ True) ∧ ((m = m) ∧ True)))))))))))) : LoopP (ex Try.prog (conOf []) (subC (bodyOf Try.f86) [1, 1, 1, 0, 1, 0, 0])) (kont Try.prog (conOf []) (bodyOf Try.f86) [1, 1, 1, 0, 1, 0] (retPost Try.prog Try.f86 1 (rsteady_res s m a b))) (rsteady_L1_S1 s m a b) := by
  have hE : rsteady_L1_E s m a b (rsteady_L1_S1 s m a b) := Eq.mp (rsteady_L1_entry1 s m a b) h
  unfold rsteady_L1_E at hE
  obtain ⟨i, hE⟩ := getI_of hE
  obtain ⟨t, hE⟩ := getI_of hE
  obtain ⟨x, hE⟩ := getI_of hE
  obtain ⟨y, hE⟩ := getI_of hE
  refine loop_of (α := (Int) × (Int) × (Int) × (Int)) (fun xx_ => rsteady_L1_F s m a b xx_.1 xx_.2.1 xx_.2.2.1 xx_.2.2.2) (fun xx_ => rsteady_L1_I s m a b xx_.1 xx_.2.1 xx_.2.2.1 xx_.2.2.2) (fun xx_ => rsteady_L1_m s m a b xx_.1 xx_.2.1 xx_.2.2.1 xx_.2.2.2) (fun xx_ => rsteady_L1_N s m a b xx_.1 xx_.2.1 xx_.2.2.1 xx_.2.2.2) (fun xx_ => rsteady_L1_T s m a b xx_.1 xx_.2.1 xx_.2.2.1 xx_.2.2.2) (fun xx_ s_ h => ?_) ⟨⟨i, t, x, y⟩, hE⟩ (fun xx_ => rsteady_L1_tree s m a b xx_.1 xx_.2.1 xx_.2.2.1 xx_.2.2.2) (fun xx_ hI => rsteady_L1_round s m a b xx_.1 xx_.2.1 xx_.2.2.1 xx_.2.2.2 p0 p1 hI)
  unfold rsteady_L1_N at h
  obtain ⟨i, h⟩ := getI_of h
  obtain ⟨t, h⟩ := getI_of h
  obtain ⟨x, h⟩ := getI_of h
  obtain ⟨y, h⟩ := getI_of h
  exact ⟨⟨i, t, x, y⟩, h⟩
set_option maxRecDepth 100000 in
theorem rsteady_tree (s : Int) (m : List (List Int)) (a : Int) (b : Int) : ((LoopP (ex Try.prog (conOf []) (subC (bodyOf Try.f86) [1, 1, 1, 0, 1, 0, 0])) (kont Try.prog (conOf []) (bodyOf Try.f86) [1, 1, 1, 0, 1, 0] (retPost Try.prog Try.f86 1 (rsteady_res s m a b))) (rsteady_L1_S1 s m a b))) = EXD Try.prog (conOf []) Try.f86 [.agg [.int .i64 s, .row 0], .cel (.int .i64 a), .cel (.int .i64 b)] [.recs [.int .i64, .int .i64] m] [] (rsteady_res s m a b) := by kernel_rfl
theorem rsteady_holds (s : Int) (m : List (List Int)) (a : Int) (b : Int) (p0 : (mValid s m) = true) (p1 : (decide (0 ≤ a) && decide (a < b) && decide (b ≤ 1099511627776)) = true) : (LoopP (ex Try.prog (conOf []) (subC (bodyOf Try.f86) [1, 1, 1, 0, 1, 0, 0])) (kont Try.prog (conOf []) (bodyOf Try.f86) [1, 1, 1, 0, 1, 0] (retPost Try.prog Try.f86 1 (rsteady_res s m a b))) (rsteady_L1_S1 s m a b)) := by
  have hp1 := p1
  simp only [Bool.and_eq_true, decide_eq_true_eq] at hp1
  obtain ⟨⟨q1, q2⟩, q3⟩ := hp1
  obtain ⟨v1, v2, v3⟩ := mV_iff.1 p0
  obtain ⟨k1, k2⟩ := ltR_lst (nts_ne m 0 a b q1 q2) (nts_bd m 0 a b v3)
  exact rsteady_L1_1 s m a b p0 p1 ⟨⟨⟨by omega, by omega⟩, fun _ => ⟨by omega, by omega, v3, k1, k2⟩, fun h => by omega⟩, by simp⟩
set_option maxHeartbeats 2000000 in
theorem rsteady_ok : SoundEnt Try.prog rsteady_e := by
  refine ent_of_ex (Γ := (conOf [])) (conOf_sound snil) (by kernel_rfl) Try.func86 (by kernel_rfl) (by kernel_rfl) (fun args rows caps res h ho => ?_)
  change rsteady_go args rows caps = some res at h
  unfold rsteady_go at h
  split at h
  · simp only [Option.some.injEq] at h
    subst h
    rename_i q0_ q2_ q3_ q1_
    obtain ⟨p0, p1, _⟩ := ho
    exact EX.of (rsteady_tree q0_ q1_ q2_ q3_) (rsteady_holds q0_ q1_ q2_ q3_ p0 p1)
  · cases h
theorem to_facts {T M s : Int} {m : List (List Int)} {j d u : List Int} {e : Int} (h : toE T M s m j d u e = 0) : crE (wValid T M) s m e = 0 ∧ lngB j d u = false ∧ j.all isJ = true ∧ u.all isT = true ∧ j.length ≤ 1000 ∧ d.length ≤ 1000 ∧ u.length ≤ 1000 := by
  unfold toE at h
  split at h
  · rename_i hz
    rw [any_not, any_not] at h
    cases hl : lngB j d u with
    | true => rw [hl] at h; simp at h
    | false =>
      have hlen : j.length ≤ 1000 ∧ d.length ≤ 1000 ∧ u.length ≤ 1000 := by
        unfold lngB at hl
        simp only [Bool.or_eq_false_iff, decide_eq_false_iff_not] at hl
        omega
      rw [hl] at h
      cases hj : j.all isJ with
      | false => rw [hj] at h; simp at h
      | true =>
        cases hu : u.all isT with
        | false => rw [hj, hu] at h; simp at h
        | true => exact ⟨hz, rfl, rfl, rfl, hlen⟩
  · rename_i hz
    exact absurd h hz
theorem k_eval {T M s : Int} {m : List (List Int)} {e : Int} (h : crE (wValid T M) s m e = 0) (hf : fewB s m e = true) {n : Nat} (hn : n + 1 < (crT T M s m e).length) :
    IntKind.i64.wrap (Int.tdiv (IntKind.i64.wrap ((eL T M s (posOf s m e)).getD (n + 1) 0 - (eL T M s (posOf s m e)).getD n 0)) (spc T M)) = (spsL T M (crP T M s m e)).getD n 0 ∧ 0 ≤ (spsL T M (crP T M s m e)).getD n 0 ∧ (spsL T M (crP T M s m e)).getD n 0 ≤ 120 := by
  obtain ⟨f1, _⟩ := cr_facts h hf
  obtain ⟨c1, c2, c3⟩ := cr_valid h hf
  obtain ⟨d1, d2, d3⟩ := cr_pos h hf
  have hk := k_bd d3 (j := n) (by omega)
  have hP : crP T M s m e = eL T M s (posOf s m e) := by unfold crP; rw [if_pos h]
  have hg := spsL_get (T := T) (M := M) (P := crP T M s m e) (j := n) (by rw [hP]; omega)
  obtain ⟨v1, v2, v3⟩ := vE_iff.1 d1
  have t0 := isT_iff.1 (all_get v2 (j := n) (by rw [hP]; omega))
  have t1 := isT_iff.1 (all_get v2 (j := n + 1) (by rw [hP]; omega))
  have hl := incr_get (j := n) v3 (by rw [hP]; omega)
  refine ⟨?_, hk⟩
  rw [← hP, w64 (n := (crP T M s m e).getD (n + 1) 0 - (crP T M s m e).getD n 0) (by omega) (by omega), tdiv_pos (by omega), ← hg, w64 (by omega) (by omega)]
theorem allB_and {p q : Nat → Bool} : ∀ n : Nat, (allB p n && allB q n) = allB (fun i => p i && q i) n
  | 0 => rfl
  | n + 1 => by
    rw [allB, allB, allB, ← allB_and n]
    cases allB p n <;> cases allB q n <;> cases p n <;> cases q n <;> rfl
theorem toB_eq {T M s : Int} {m : List (List Int)} {j d u : List Int} {e : Int} (h : toE T M s m j d u e = 0) (hf : fewB s m e = true) (hd : d.length = 0) : toB T M s m j d u e = (allB (fun n => calmP (crT T M s m e) (spsL T M (crP T M s m e)) j n && stdP (crT T M s m e) m n) ((crT T M s m e).length - 1) && u.all (sparP (crT T M s m e) (spsL T M (crP T M s m e)) j)) := by
  obtain ⟨z, _⟩ := to_facts h
  obtain ⟨d1, d2, d3⟩ := cr_pos z hf
  unfold toB
  rw [decide_eq_true h, decide_eq_true hd, ← allB_and]
  unfold calmB stdB
  rw [d2]
  cases allB (calmP (crT T M s m e) (spsL T M (crP T M s m e)) j) ((crT T M s m e).length - 1) <;> cases allB (stdP (crT T M s m e) m) ((crT T M s m e).length - 1) <;> cases u.all (sparP (crT T M s m e) (spsL T M (crP T M s m e)) j) <;> rfl
def rtoler_res (T : Int) (M : Int) (s : Int) (m : List (List Int)) (j : List Int) (d : List Int) (u : List Int) (e : Int) : CRes := ⟨[fewB s m e], .tup [.cel (.bool (toB T M s m j d u e)), .cel (.int .i64 (toE T M s m j d u e))], []⟩
def rtoler_go : List TV → List RowA → List (List CV) → Option CRes := fun args rows caps =>
  match args, rows, caps with
  | [.agg [.int .i64 T, .int .i64 M], .agg [.int .i64 s, .row 0], .agg [.row 1, .row 2, .row 3], .cel (.int .i64 e)], [.recs [.int .i64, .int .i64] m, .ints .i64 j, .ints .i64 d, .ints .i64 u], [] => some (rtoler_res T M s m j d u e)
  | _, _, _ => none
def rtoler_e : Ent := ⟨34, [.recs [.int .i64, .int .i64] [], .ints .i64 [], .ints .i64 [], .ints .i64 []], rtoler_go⟩
def rtoler_L1_F (T : Int) (M : Int) (s : Int) (m : List (List Int)) (j : List Int) (d : List Int) (u : List Int) (e : Int) (i : Int) : St := ⟨202, [], [(15, (.one (.cel (.int .i64 i)))), (14, (.one (.cel (.int .i64 (spc T M))))), (12, (.one (.cel (.row 5)))), (10, (.one (.cel (.row 4)))), (9, (.one (.cel (.int .i64 (0 : Int))))), (8, (.one (.cel (.bool Bool.false)))), (6, (.one (.cel (.ptr 2 0)))), (5, (.one (.cel (.ptr 1 0))))], [[(.int .i64 T), (.int .i64 M)], [(.int .i64 s), (.row 0)], [(.row 1), (.row 2), (.row 3)]], [⟨(.recs [.int .i64, .int .i64] m), none⟩, ⟨(.ints .i64 j), none⟩, ⟨(.ints .i64 d), none⟩, ⟨(.ints .i64 u), none⟩, ⟨(.ints .i64 (crT T M s m e)), none⟩, ⟨(.ints .i64 (eL T M s (posOf s m e))), none⟩], 0⟩
def rtoler_L1_I (T : Int) (M : Int) (s : Int) (m : List (List Int)) (j : List Int) (d : List Int) (u : List Int) (e : Int) (i : Int) : Prop := (toE T M s m j d u e = 0 ∧ d.length = 0) ∧ (0 ≤ i ∧ i ≤ 1000) ∧ (allB (fun n => calmP (crT T M s m e) (spsL T M (crP T M s m e)) j n && stdP (crT T M s m e) m n) i.toNat = true)
def rtoler_L1_m (T : Int) (M : Int) (s : Int) (m : List (List Int)) (j : List Int) (d : List Int) (u : List Int) (e : Int) (i : Int) : Nat := (1000 - i).toNat
def rtoler_L1_N (T : Int) (M : Int) (s : Int) (m : List (List Int)) (j : List Int) (d : List Int) (u : List Int) (e : Int) (i' : Int) (st_ : St) : Prop := getI st_ 15 fun i => rtoler_L1_I T M s m j d u e i ∧ rtoler_L1_m T M s m j d u e i < rtoler_L1_m T M s m j d u e i' ∧ SubA st_ (rtoler_L1_F T M s m j d u e i)
def rtoler_L1_E (T : Int) (M : Int) (s : Int) (m : List (List Int)) (j : List Int) (d : List Int) (u : List Int) (e : Int) (st_ : St) : Prop := getI st_ 15 fun i => rtoler_L1_I T M s m j d u e i ∧ SubA st_ (rtoler_L1_F T M s m j d u e i)
def rtoler_L1_S1 (T : Int) (M : Int) (s : Int) (m : List (List Int)) (j : List Int) (d : List Int) (u : List Int) (e : Int) : St := ⟨202, [], [(15, (.one (.cel (.int .i64 (0 : Int))))), (14, (.one (.cel (.int .i64 (spc T M))))), (46, (.one (.cel (.int .i64 (spc T M))))), (45, (.one (.agg [(.int .i64 T), (.int .i64 M)]))), (13, (.one (.cel (.bool Bool.true)))), (12, (.one (.cel (.row 5)))), (44, (.one (.cel (.bool Bool.true)))), (43, (.one (.cel (.row 5)))), (38, (.tup [(.cel (.row 5)), (.cel (.bool Bool.true))])), (42, (.tup [(.cel (.row 5)), (.cel (.bool Bool.true))])), (41, (.one (.cel (.int .i64 e)))), (40, (.one (.agg [(.int .i64 s), (.row 0)]))), (39, (.one (.agg [(.int .i64 T), (.int .i64 M)]))), (37, (.one (.cel (.bool (decide ((0 : Int) < (((List.length d) : Nat) : Int))))))), (36, (.one (.cel (.int .i64 (((List.length d) : Nat) : Int))))), (35, (.one (.cel (.row 2)))), (34, (.one (.cel (.ptr 2 1)))), (33, (.one (.cel (.bool (!((List.all j isJ) && (List.all u isT))))))), (32, (.one (.agg [(.row 1), (.row 2), (.row 3)]))), (31, (.one (.cel (.bool (lngB j d u))))), (30, (.one (.agg [(.row 1), (.row 2), (.row 3)]))), (28, (.one (.cel (.bool (!(decide ((crE (wValid T M) s m e) = (0 : Int)))))))), (27, (.one (.cel (.int .i64 (crE (wValid T M) s m e))))), (11, (.one (.cel (.int .i64 (crE (wValid T M) s m e))))), (10, (.one (.cel (.row 4)))), (26, (.one (.cel (.int .i64 (crE (wValid T M) s m e))))), (25, (.one (.cel (.row 4)))), (20, (.tup [(.cel (.row 4)), (.cel (.int .i64 (crE (wValid T M) s m e)))])), (24, (.tup [(.cel (.row 4)), (.cel (.int .i64 (crE (wValid T M) s m e)))])), (23, (.one (.cel (.int .i64 e)))), (22, (.one (.agg [(.int .i64 s), (.row 0)]))), (21, (.one (.agg [(.int .i64 T), (.int .i64 M)]))), (9, (.one (.cel (.int .i64 (0 : Int))))), (8, (.one (.cel (.bool Bool.false)))), (6, (.one (.cel (.ptr 2 0)))), (5, (.one (.cel (.ptr 1 0)))), (4, (.one (.cel (.ptr 0 0)))), (0, (.one (.agg [(.int .i64 T), (.int .i64 M)]))), (1, (.one (.agg [(.int .i64 s), (.row 0)]))), (2, (.one (.agg [(.row 1), (.row 2), (.row 3)]))), (3, (.one (.cel (.int .i64 e))))], [[(.int .i64 T), (.int .i64 M)], [(.int .i64 s), (.row 0)], [(.row 1), (.row 2), (.row 3)]], [⟨(.recs [.int .i64, .int .i64] m), none⟩, ⟨(.ints .i64 j), none⟩, ⟨(.ints .i64 d), none⟩, ⟨(.ints .i64 u), none⟩, ⟨(.ints .i64 (crT T M s m e)), none⟩, ⟨(.ints .i64 (eL T M s (posOf s m e))), none⟩], 0⟩
def rtoler_L2_F (T : Int) (M : Int) (s : Int) (m : List (List Int)) (j : List Int) (d : List Int) (u : List Int) (e : Int) (i : Int) (q : Int) : St := ⟨202, [], [(17, (.one (.cel (.int .i64 q)))), (14, (.one (.cel (.int .i64 (spc T M))))), (12, (.one (.cel (.row 5)))), (10, (.one (.cel (.row 4)))), (9, (.one (.cel (.int .i64 (0 : Int))))), (8, (.one (.cel (.bool Bool.false)))), (6, (.one (.cel (.ptr 2 0))))], [[(.int .i64 T), (.int .i64 M)], [(.int .i64 s), (.row 0)], [(.row 1), (.row 2), (.row 3)]], [⟨(.recs [.int .i64, .int .i64] m), none⟩, ⟨(.ints .i64 j), none⟩, ⟨(.ints .i64 d), none⟩, ⟨(.ints .i64 u), none⟩, ⟨(.ints .i64 (crT T M s m e)), none⟩, ⟨(.ints .i64 (eL T M s (posOf s m e))), none⟩], 0⟩
def rtoler_L2_I (T : Int) (M : Int) (s : Int) (m : List (List Int)) (j : List Int) (d : List Int) (u : List Int) (e : Int) (i : Int) (q : Int) : Prop := (0 ≤ q ∧ q ≤ u.length) ∧ (u.all (sparP (crT T M s m e) (spsL T M (crP T M s m e)) j) = (u.drop q.toNat).all (sparP (crT T M s m e) (spsL T M (crP T M s m e)) j)) ∧ (¬ i + 1 < (crT T M s m e).length)
def rtoler_L2_m (T : Int) (M : Int) (s : Int) (m : List (List Int)) (j : List Int) (d : List Int) (u : List Int) (e : Int) (i : Int) (q : Int) : Nat := (u.length - q).toNat
def rtoler_L2_N (T : Int) (M : Int) (s : Int) (m : List (List Int)) (j : List Int) (d : List Int) (u : List Int) (e : Int) (i : Int) (q' : Int) (st_ : St) : Prop := getI st_ 17 fun q => rtoler_L2_I T M s m j d u e i q ∧ rtoler_L2_m T M s m j d u e i q < rtoler_L2_m T M s m j d u e i q' ∧ SubA st_ (rtoler_L2_F T M s m j d u e i q)
def rtoler_L2_E (T : Int) (M : Int) (s : Int) (m : List (List Int)) (j : List Int) (d : List Int) (u : List Int) (e : Int) (i : Int) (st_ : St) : Prop := getI st_ 17 fun q => rtoler_L2_I T M s m j d u e i q ∧ SubA st_ (rtoler_L2_F T M s m j d u e i q)
def rtoler_L2_S1 (T : Int) (M : Int) (s : Int) (m : List (List Int)) (j : List Int) (d : List Int) (u : List Int) (e : Int) (i : Int) : St := ⟨202, [], [(17, (.one (.cel (.int .i64 (0 : Int))))), (51, (.one (.cel (.bool (decide ((Go.IntKind.wrap Go.IntKind.i64 (i + (1 : Int))) < (((List.length (crT T M s m e)) : Nat) : Int))))))), (50, (.one (.cel (.int .i64 (((List.length (crT T M s m e)) : Nat) : Int))))), (49, (.one (.cel (.row 4)))), (48, (.one (.cel (.int .i64 (Go.IntKind.wrap Go.IntKind.i64 (i + (1 : Int))))))), (47, (.one (.cel (.int .i64 i)))), (15, (.one (.cel (.int .i64 i)))), (14, (.one (.cel (.int .i64 (spc T M))))), (12, (.one (.cel (.row 5)))), (10, (.one (.cel (.row 4)))), (9, (.one (.cel (.int .i64 (0 : Int))))), (8, (.one (.cel (.bool Bool.false)))), (6, (.one (.cel (.ptr 2 0)))), (5, (.one (.cel (.ptr 1 0))))], [[(.int .i64 T), (.int .i64 M)], [(.int .i64 s), (.row 0)], [(.row 1), (.row 2), (.row 3)]], [⟨(.recs [.int .i64, .int .i64] m), none⟩, ⟨(.ints .i64 j), none⟩, ⟨(.ints .i64 d), none⟩, ⟨(.ints .i64 u), none⟩, ⟨(.ints .i64 (crT T M s m e)), none⟩, ⟨(.ints .i64 (eL T M s (posOf s m e))), none⟩], 0⟩
def rtoler_L3_F (T : Int) (M : Int) (s : Int) (m : List (List Int)) (j : List Int) (d : List Int) (u : List Int) (e : Int) (i : Int) (q : Int) (k : Int) (w : Int) : St := ⟨202, [], [(19, (.one (.cel (.int .i64 k)))), (18, (.one (.cel (.int .i64 w)))), (128, (.one (.cel (.bool (decide (q < (((List.length u) : Nat) : Int))))))), (127, (.one (.cel (.int .i64 (((List.length u) : Nat) : Int))))), (126, (.one (.cel (.row 3)))), (125, (.one (.cel (.ptr 2 2)))), (124, (.one (.cel (.int .i64 q)))), (17, (.one (.cel (.int .i64 q)))), (14, (.one (.cel (.int .i64 (spc T M))))), (12, (.one (.cel (.row 5)))), (10, (.one (.cel (.row 4)))), (9, (.one (.cel (.int .i64 (0 : Int))))), (8, (.one (.cel (.bool Bool.false)))), (6, (.one (.cel (.ptr 2 0))))], [[(.int .i64 T), (.int .i64 M)], [(.int .i64 s), (.row 0)], [(.row 1), (.row 2), (.row 3)]], [⟨(.recs [.int .i64, .int .i64] m), none⟩, ⟨(.ints .i64 j), none⟩, ⟨(.ints .i64 d), none⟩, ⟨(.ints .i64 u), none⟩, ⟨(.ints .i64 (crT T M s m e)), none⟩, ⟨(.ints .i64 (eL T M s (posOf s m e))), none⟩], 0⟩
def rtoler_L3_I (T : Int) (M : Int) (s : Int) (m : List (List Int)) (j : List Int) (d : List Int) (u : List Int) (e : Int) (i : Int) (q : Int) (k : Int) (w : Int) : Prop := (0 ≤ k ∧ k ≤ (crT T M s m e).length) ∧ (w = lidx (fun x => decide ((crT T M s m e).getD x 0 + mvd j x < u.getD q.toNat 0)) k.toNat) ∧ (q < u.length)
def rtoler_L3_m (T : Int) (M : Int) (s : Int) (m : List (List Int)) (j : List Int) (d : List Int) (u : List Int) (e : Int) (i : Int) (q : Int) (k : Int) (w : Int) : Nat := ((crT T M s m e).length - k).toNat
def rtoler_L3_N (T : Int) (M : Int) (s : Int) (m : List (List Int)) (j : List Int) (d : List Int) (u : List Int) (e : Int) (i : Int) (q : Int) (k' : Int) (w' : Int) (st_ : St) : Prop := getI st_ 19 fun k => getI st_ 18 fun w => rtoler_L3_I T M s m j d u e i q k w ∧ rtoler_L3_m T M s m j d u e i q k w < rtoler_L3_m T M s m j d u e i q k' w' ∧ SubA st_ (rtoler_L3_F T M s m j d u e i q k w)
def rtoler_L3_E (T : Int) (M : Int) (s : Int) (m : List (List Int)) (j : List Int) (d : List Int) (u : List Int) (e : Int) (i : Int) (q : Int) (st_ : St) : Prop := getI st_ 19 fun k => getI st_ 18 fun w => rtoler_L3_I T M s m j d u e i q k w ∧ SubA st_ (rtoler_L3_F T M s m j d u e i q k w)
def rtoler_L3_S1 (T : Int) (M : Int) (s : Int) (m : List (List Int)) (j : List Int) (d : List Int) (u : List Int) (e : Int) (i : Int) (q : Int) : St := ⟨202, [], [(19, (.one (.cel (.int .i64 (0 : Int))))), (18, (.one (.cel (.int .i64 (-(1 : Int)))))), (128, (.one (.cel (.bool (decide (q < (((List.length u) : Nat) : Int))))))), (127, (.one (.cel (.int .i64 (((List.length u) : Nat) : Int))))), (126, (.one (.cel (.row 3)))), (125, (.one (.cel (.ptr 2 2)))), (124, (.one (.cel (.int .i64 q)))), (17, (.one (.cel (.int .i64 q)))), (14, (.one (.cel (.int .i64 (spc T M))))), (12, (.one (.cel (.row 5)))), (10, (.one (.cel (.row 4)))), (9, (.one (.cel (.int .i64 (0 : Int))))), (8, (.one (.cel (.bool Bool.false)))), (6, (.one (.cel (.ptr 2 0))))], [[(.int .i64 T), (.int .i64 M)], [(.int .i64 s), (.row 0)], [(.row 1), (.row 2), (.row 3)]], [⟨(.recs [.int .i64, .int .i64] m), none⟩, ⟨(.ints .i64 j), none⟩, ⟨(.ints .i64 d), none⟩, ⟨(.ints .i64 u), none⟩, ⟨(.ints .i64 (crT T M s m e)), none⟩, ⟨(.ints .i64 (eL T M s (posOf s m e))), none⟩], 0⟩
def rtoler_L3_T (T : Int) (M : Int) (s : Int) (m : List (List Int)) (j : List Int) (d : List Int) (u : List Int) (e : Int) (i : Int) (q : Int) (k : Int) (w : Int) : Prop := (cnd (decide (k < (((List.length (crT T M s m e)) : Nat) : Int)))
  (cnd (decide ((0 : Int) ≤ k))
    (cnd (decide (k < (((List.length (crT T M s m e)) : Nat) : Int)))
      (cnd (decide ((0 : Int) ≤ k))
        (cnd (decide ((0 : Int) ≤ q))
          (cnd (decide (q < (((List.length u) : Nat) : Int)))
            (cnd (decide ((Go.IntKind.wrap Go.IntKind.i64 ((List.getD (crT T M s m e) (Int.toNat k) (0 : Int)) + (mvd j k))) < (List.getD u (Int.toNat q) (0 : Int))))
              ((rtoler_L3_I T M s m j d u e i q (Go.IntKind.wrap Go.IntKind.i64 (k + (1 : Int))) k) ∧ (((rtoler_L3_m T M s m j d u e i q (Go.IntKind.wrap Go.IntKind.i64 (k + (1 : Int))) k) < (rtoler_L3_m T M s m j d u e i q k w)) ∧ (((Go.IntKind.wrap Go.IntKind.i64 (k + (1 : Int))) = (Go.IntKind.wrap Go.IntKind.i64 (k + (1 : Int)))) ∧ ((k = k) ∧ (((decide (q < (((List.length u) : Nat) : Int))) = (decide (q < (((List.length u) : Nat) : Int)))) ∧ (((((List.length u) : Nat) : Int) = (((List.length u) : Nat) : Int)) ∧ (True ∧ (True ∧ ((q = q) ∧ ((q = q) ∧ (((spc T M) = (spc T M)) ∧ (True ∧ (True ∧ (((0 : Int) = (0 : Int)) ∧ ((Bool.false = Bool.false) ∧ (True ∧ (((T = T) ∧ (M = M)) ∧ (((s = s) ∧ True) ∧ ((True ∧ (True ∧ True)) ∧ ((m = m) ∧ ((j = j) ∧ ((d = d) ∧ ((u = u) ∧ (((crT T M s m e) = (crT T M s m e)) ∧ (((eL T M s (posOf s m e)) = (eL T M s (posOf s m e))) ∧ True)))))))))))))))))))))))))
              ((rtoler_L3_I T M s m j d u e i q (Go.IntKind.wrap Go.IntKind.i64 (k + (1 : Int))) w) ∧ (((rtoler_L3_m T M s m j d u e i q (Go.IntKind.wrap Go.IntKind.i64 (k + (1 : Int))) w) < (rtoler_L3_m T M s m j d u e i q k w)) ∧ (((Go.IntKind.wrap Go.IntKind.i64 (k + (1 : Int))) = (Go.IntKind.wrap Go.IntKind.i64 (k + (1 : Int)))) ∧ ((w = w) ∧ (((decide (q < (((List.length u) : Nat) : Int))) = (decide (q < (((List.length u) : Nat) : Int)))) ∧ (((((List.length u) : Nat) : Int) = (((List.length u) : Nat) : Int)) ∧ (True ∧ (True ∧ ((q = q) ∧ ((q = q) ∧ (((spc T M) = (spc T M)) ∧ (True ∧ (True ∧ (((0 : Int) = (0 : Int)) ∧ ((Bool.false = Bool.false) ∧ (True ∧ (((T = T) ∧ (M = M)) ∧ (((s = s) ∧ True) ∧ ((True ∧ (True ∧ True)) ∧ ((m = m) ∧ ((j = j) ∧ ((d = d) ∧ ((u = u) ∧ (((crT T M s m e) = (crT T M s m e)) ∧ (((eL T M s (posOf s m e)) = (eL T M s (posOf s m e))) ∧ True))))))))))))))))))))))))))
            False)
          False)
        False)
      False)
    False)
  (cnd ((!(((decide (w < (1 : Int))) || (decide ((((List.length (crT T M s m e)) : Nat) : Int) ≤ (Go.IntKind.wrap Go.IntKind.i64 (w + (1 : Int)))))) == Bool.false)) || (decide ((0 : Int) ≤ q)))
    (cnd ((!(((decide (w < (1 : Int))) || (decide ((((List.length (crT T M s m e)) : Nat) : Int) ≤ (Go.IntKind.wrap Go.IntKind.i64 (w + (1 : Int)))))) == Bool.false)) || (decide (q < (((List.length u) : Nat) : Int))))
      (cnd ((!(((decide (w < (1 : Int))) || (decide ((((List.length (crT T M s m e)) : Nat) : Int) ≤ (Go.IntKind.wrap Go.IntKind.i64 (w + (1 : Int)))))) == Bool.false)) || (decide ((0 : Int) ≤ w)))
        (cnd ((!(((decide (w < (1 : Int))) || (decide ((((List.length (crT T M s m e)) : Nat) : Int) ≤ (Go.IntKind.wrap Go.IntKind.i64 (w + (1 : Int)))))) == Bool.false)) || (decide (w < (((List.length (crT T M s m e)) : Nat) : Int))))
          (cnd ((!(((decide (w < (1 : Int))) || (decide ((((List.length (crT T M s m e)) : Nat) : Int) ≤ (Go.IntKind.wrap Go.IntKind.i64 (w + (1 : Int)))))) == Bool.false)) || (decide ((0 : Int) ≤ w)))
            (cnd ((!(((decide (w < (1 : Int))) || (decide ((((List.length (crT T M s m e)) : Nat) : Int) ≤ (Go.IntKind.wrap Go.IntKind.i64 (w + (1 : Int)))))) == Bool.false)) || (decide ((0 : Int) ≤ (Go.IntKind.wrap Go.IntKind.i64 (w + (1 : Int))))))
              (cnd ((!(((decide (w < (1 : Int))) || (decide ((((List.length (crT T M s m e)) : Nat) : Int) ≤ (Go.IntKind.wrap Go.IntKind.i64 (w + (1 : Int)))))) == Bool.false)) || (decide ((Go.IntKind.wrap Go.IntKind.i64 (w + (1 : Int))) < (((List.length (eL T M s (posOf s m e))) : Nat) : Int))))
                (cnd ((!(((decide (w < (1 : Int))) || (decide ((((List.length (crT T M s m e)) : Nat) : Int) ≤ (Go.IntKind.wrap Go.IntKind.i64 (w + (1 : Int)))))) == Bool.false)) || (decide ((0 : Int) ≤ w)))
                  (cnd ((!(((decide (w < (1 : Int))) || (decide ((((List.length (crT T M s m e)) : Nat) : Int) ≤ (Go.IntKind.wrap Go.IntKind.i64 (w + (1 : Int)))))) == Bool.false)) || (decide (w < (((List.length (eL T M s (posOf s m e))) : Nat) : Int))))
                    (cnd ((!(((decide (w < (1 : Int))) || (decide ((((List.length (crT T M s m e)) : Nat) : Int) ≤ (Go.IntKind.wrap Go.IntKind.i64 (w + (1 : Int)))))) == Bool.false)) || (decide ((spc T M) ≠ (0 : Int))))
                      (cnd ((!(((decide (w < (1 : Int))) || (decide ((((List.length (crT T M s m e)) : Nat) : Int) ≤ (Go.IntKind.wrap Go.IntKind.i64 (w + (1 : Int)))))) == Bool.false)) || (decide ((0 : Int) ≤ (Go.IntKind.wrap Go.IntKind.i64 (w + (1 : Int))))))
                        (cnd ((!(((decide (w < (1 : Int))) || (decide ((((List.length (crT T M s m e)) : Nat) : Int) ≤ (Go.IntKind.wrap Go.IntKind.i64 (w + (1 : Int)))))) == Bool.false)) || (decide ((Go.IntKind.wrap Go.IntKind.i64 (w + (1 : Int))) < (((List.length (crT T M s m e)) : Nat) : Int))))
                          (cnd ((!(((decide (w < (1 : Int))) || (decide ((((List.length (crT T M s m e)) : Nat) : Int) ≤ (Go.IntKind.wrap Go.IntKind.i64 (w + (1 : Int)))))) == Bool.false)) || (decide ((0 : Int) ≤ w)))
                            (cnd ((!(((decide (w < (1 : Int))) || (decide ((((List.length (crT T M s m e)) : Nat) : Int) ≤ (Go.IntKind.wrap Go.IntKind.i64 (w + (1 : Int)))))) == Bool.false)) || (decide (w < (((List.length (crT T M s m e)) : Nat) : Int))))
                              (cnd (((decide (w < (1 : Int))) || (decide ((((List.length (crT T M s m e)) : Nat) : Int) ≤ (Go.IntKind.wrap Go.IntKind.i64 (w + (1 : Int)))))) || (decide ((Go.IntKind.wrap Go.IntKind.i64 ((List.getD (crT T M s m e) (Int.toNat (Go.IntKind.wrap Go.IntKind.i64 (w + (1 : Int)))) (0 : Int)) - (List.getD (crT T M s m e) (Int.toNat w) (0 : Int)))) ≤ (Go.IntKind.wrap Go.IntKind.i64 ((Go.IntKind.wrap Go.IntKind.i64 ((8 : Int) * (Go.IntKind.wrap Go.IntKind.i64 ((Go.IntKind.wrap Go.IntKind.i64 ((List.getD u (Int.toNat q) (0 : Int)) - (List.getD (crT T M s m e) (Int.toNat w) (0 : Int)))) - (mvd j w))))) * (Go.IntKind.wrap Go.IntKind.i64 (Int.tdiv (Go.IntKind.wrap Go.IntKind.i64 ((List.getD (eL T M s (posOf s m e)) (Int.toNat (Go.IntKind.wrap Go.IntKind.i64 (w + (1 : Int)))) (0 : Int)) - (List.getD (eL T M s (posOf s m e)) (Int.toNat w) (0 : Int)))) (spc T M))))))))
                                ((Bool.false = (toB T M s m j d u e)) ∧ ((0 : Int) = (toE T M s m j d u e)))
                                ((rtoler_L2_I T M s m j d u e i (Go.IntKind.wrap Go.IntKind.i64 (q + (1 : Int)))) ∧ (((rtoler_L2_m T M s m j d u e i (Go.IntKind.wrap Go.IntKind.i64 (q + (1 : Int)))) < (rtoler_L2_m T M s m j d u e i q)) ∧ (((Go.IntKind.wrap Go.IntKind.i64 (q + (1 : Int))) = (Go.IntKind.wrap Go.IntKind.i64 (q + (1 : Int)))) ∧ (((spc T M) = (spc T M)) ∧ (True ∧ (True ∧ (((0 : Int) = (0 : Int)) ∧ ((Bool.false = Bool.false) ∧ (True ∧ (((T = T) ∧ (M = M)) ∧ (((s = s) ∧ True) ∧ ((True ∧ (True ∧ True)) ∧ ((m = m) ∧ ((j = j) ∧ ((d = d) ∧ ((u = u) ∧ (((crT T M s m e) = (crT T M s m e)) ∧ (((eL T M s (posOf s m e)) = (eL T M s (posOf s m e))) ∧ True)))))))))))))))))))
                              False)
                            False)
                          False)
                        False)
                      False)
                    False)
                  False)
                False)
              False)
            False)
          False)
        False)
      False)
    False))
set_option maxRecDepth 100000 in
theorem rtoler_L3_tree (T : Int) (M : Int) (s : Int) (m : List (List Int)) (j : List Int) (d : List Int) (u : List Int) (e : Int) (i : Int) (q : Int) (k : Int) (w : Int) : rtoler_L3_T T M s m j d u e i q k w = ex Try.prog (conOf [rcrank_e, rlong_e, rfar_e, rpositions_e, rspace_e, rmoved_e, rabs_e, rsteady_e]) (subC (subC (bodyOf Try.f34) [1, 1, 1, 1, 1, 1, 1, 1, 1, 0, 1, 0, 0]) [1, 0, 0, 1, 0, 1, 0, 0]) (nextE (rtoler_L3_N T M s m j d u e i q k w) (kont Try.prog (conOf [rcrank_e, rlong_e, rfar_e, rpositions_e, rspace_e, rmoved_e, rabs_e, rsteady_e]) (subC (bodyOf Try.f34) [1, 1, 1, 1, 1, 1, 1, 1, 1, 0, 1, 0, 0]) [1, 0, 0, 1, 0, 1, 0] (nextE (rtoler_L2_N T M s m j d u e i q) (kont Try.prog (conOf [rcrank_e, rlong_e, rfar_e, rpositions_e, rspace_e, rmoved_e, rabs_e, rsteady_e]) (bodyOf Try.f34) [1, 1, 1, 1, 1, 1, 1, 1, 1, 0, 1, 0] (retPost Try.prog Try.f34 4 (rtoler_res T M s m j d u e)))))) (rtoler_L3_F T M s m j d u e i q k w) := by kernel_rfl
set_option maxRecDepth 100000 in
theorem rtoler_L3_round (T : Int) (M : Int) (s : Int) (m : List (List Int)) (j : List Int) (d : List Int) (u : List Int) (e : Int) (i : Int) (q : Int) (k : Int) (w : Int) (p0 : (fewB s m e) = true) (hI_L1 : rtoler_L1_I T M s m j d u e i) (hI_L2 : rtoler_L2_I T M s m j d u e i q) (hI_L3 : rtoler_L3_I T M s m j d u e i q k w) : rtoler_L3_T T M s m j d u e i q k w := by
  obtain ⟨⟨hE, hd⟩, ⟨a1, a2⟩, a3⟩ := hI_L1
  obtain ⟨⟨b1, b2⟩, b3, b4⟩ := hI_L2
  obtain ⟨⟨c1', c2'⟩, c3', c4'⟩ := hI_L3
  obtain ⟨z, z1, z2, z3, z4, z5, z6⟩ := to_facts hE
  obtain ⟨f1, f2, f3, f4, f5, f6, f7, f8, f9⟩ := cr_facts z p0
  obtain ⟨c1, c2, c3⟩ := cr_valid z p0
  obtain ⟨d1, d2, d3⟩ := cr_pos z p0
  obtain ⟨v1, v2, v3⟩ := vE_iff.1 c1
  obtain ⟨bb0, bb1, bb2, bb3⟩ := spc_bd f1
  have hB := toB_eq hE p0 hd
  have hs := isT_iff.1 (all_get z3 (j := q.toNat) (by omega))
  rw [drop_consI b1 c4', List.all_cons] at b3
  have hw := lidx_bd (fun x => decide ((crT T M s m e).getD x 0 + mvd j x < u.getD q.toNat 0)) k.toNat
  rw [← c3'] at hw
  have hF : ∀ q' w' : Int, 0 ≤ q' ∧ q' ≤ (crT T M s m e).length → w' = lidx (fun x => decide ((crT T M s m e).getD x 0 + mvd j x < u.getD q.toNat 0)) q'.toNat → rtoler_L3_I T M s m j d u e i q q' w' := fun _ _ h1 h2 => ⟨h1, h2, c4'⟩
  have hμ : ∀ w', k < (crT T M s m e).length → rtoler_L3_m T M s m j d u e i q (k + 1) w' < rtoler_L3_m T M s m j d u e i q k w := fun _ h => by unfold rtoler_L3_m; omega
  have hG : sparP (crT T M s m e) (spsL T M (crP T M s m e)) j (u.getD q.toNat 0) = true → rtoler_L2_I T M s m j d u e i (q + 1) := fun h => ⟨⟨by omega, by omega⟩, by rw [b3, h, show (q + 1).toNat = q.toNat + 1 by omega]; rfl, b4⟩
  have hν : rtoler_L2_m T M s m j d u e i (q + 1) < rtoler_L2_m T M s m j d u e i q := by unfold rtoler_L2_m; omega
  have hN : sparP (crT T M s m e) (spsL T M (crP T M s m e)) j (u.getD q.toNat 0) = false → toB T M s m j d u e = false := fun h => by rw [hB, b3, h, Bool.false_and, Bool.and_false]
  unfold rtoler_L3_T
  rw [hE, decide_eq_true b1, decide_eq_true c4']
  generalize u.getD q.toNat 0 = x at *
  by_cases hq : k < (crT T M s m e).length
  · have t0 := isT_iff.1 (all_get v2 (j := k.toNat) (by omega))
    have hJ := isJ_iff.1 (mvd_J z2 k)
    have hl : lidx (fun y => decide ((crT T M s m e).getD y 0 + mvd j y < x)) (k + 1).toNat = if decide ((crT T M s m e).getD k.toNat 0 + mvd j k < x) then k else w := by
      rw [show (k + 1).toNat = k.toNat + 1 by omega, lidx, ← c3', show ((k.toNat : Nat) : Int) = k by omega]
    rw [decide_eq_true hq, decide_eq_true c1', w64 (n := k + 1) (by omega) (by omega), w64 (n := (crT T M s m e).getD k.toNat 0 + mvd j k) (by omega) (by omega)]
    by_cases hc : (crT T M s m e).getD k.toNat 0 + mvd j k < x
    · rw [decide_eq_true hc] at hl ⊢
      exact ⟨hF _ _ ⟨by omega, by omega⟩ hl.symm, hμ _ hq, by simp⟩
    · rw [decide_eq_false hc] at hl ⊢
      exact ⟨hF _ _ ⟨by omega, by omega⟩ hl.symm, hμ _ hq, by simp⟩
  · have hI : w = sparI (crT T M s m e) j x := by unfold sparI; rw [c3', show k.toNat = (crT T M s m e).length by omega]
    have hP : sparP (crT T M s m e) (spsL T M (crP T M s m e)) j x = (decide (1 ≤ w) && decide (w < (spsL T M (crP T M s m e)).length) && decide (8 * (x - (crT T M s m e).getD w.toNat 0 - mvd j w) * (spsL T M (crP T M s m e)).getD w.toNat 0 < (crT T M s m e).getD (w.toNat + 1) 0 - (crT T M s m e).getD w.toNat 0)) := by
      unfold sparP
      rw [← hI]
    rw [decide_eq_false hq, w64 (n := w + 1) (by omega) (by omega)]
    by_cases hc : 1 ≤ w ∧ w < (spsL T M (crP T M s m e)).length
    · obtain ⟨k1, k2, k3⟩ := k_eval z p0 (n := w.toNat) (by omega)
      have t0 := isT_iff.1 (all_get v2 (j := w.toNat) (by omega))
      have t1 := isT_iff.1 (all_get v2 (j := w.toNat + 1) (by omega))
      have hJ := isJ_iff.1 (mvd_J z2 w)
      have hm : -(32 * 1099511627776) * 120 ≤ 8 * (x - (crT T M s m e).getD w.toNat 0 - mvd j w) * (spsL T M (crP T M s m e)).getD w.toNat 0 ∧ 8 * (x - (crT T M s m e).getD w.toNat 0 - mvd j w) * (spsL T M (crP T M s m e)).getD w.toNat 0 ≤ 32 * 1099511627776 * 120 := by
        have h1 := Int.mul_le_mul_of_nonneg_right (show 8 * (x - (crT T M s m e).getD w.toNat 0 - mvd j w) ≤ 32 * 1099511627776 by omega) k2
        have h2 := Int.mul_le_mul_of_nonneg_right (show -(32 * 1099511627776) ≤ 8 * (x - (crT T M s m e).getD w.toNat 0 - mvd j w) by omega) k2
        generalize 8 * (x - (crT T M s m e).getD w.toNat 0 - mvd j w) * (spsL T M (crP T M s m e)).getD w.toNat 0 = y at *
        omega
      rw [decide_eq_false (show ¬ w < 1 by omega), decide_eq_false (show ¬ ((crT T M s m e).length : Int) ≤ w + 1 by omega), show (w + 1).toNat = w.toNat + 1 by omega, k1, w64 (n := q + 1) (by omega) (by omega), w64 (n := (crT T M s m e).getD (w.toNat + 1) 0 - (crT T M s m e).getD w.toNat 0) (by omega) (by omega), w64 (n := x - (crT T M s m e).getD w.toNat 0) (by omega) (by omega), w64 (n := x - (crT T M s m e).getD w.toNat 0 - mvd j w) (by omega) (by omega), w64 (n := 8 * (x - (crT T M s m e).getD w.toNat 0 - mvd j w)) (by omega) (by omega), w64 (n := 8 * (x - (crT T M s m e).getD w.toNat 0 - mvd j w) * (spsL T M (crP T M s m e)).getD w.toNat 0) (by omega) (by omega), decide_eq_true (show 0 ≤ w by omega), decide_eq_true (show w < ((crT T M s m e).length : Int) by omega), decide_eq_true (show w < ((eL T M s (posOf s m e)).length : Int) by omega), decide_eq_true (show 0 ≤ w + 1 by omega), decide_eq_true (show w + 1 < ((crT T M s m e).length : Int) by omega), decide_eq_true (show w + 1 < ((eL T M s (posOf s m e)).length : Int) by omega), decide_eq_true (show spc T M ≠ 0 by omega)]
      rw [decide_eq_true hc.1, decide_eq_true hc.2, Bool.true_and, Bool.true_and] at hP
      by_cases hd : 8 * (x - (crT T M s m e).getD w.toNat 0 - mvd j w) * (spsL T M (crP T M s m e)).getD w.toNat 0 < (crT T M s m e).getD (w.toNat + 1) 0 - (crT T M s m e).getD w.toNat 0
      · rw [decide_eq_false (show ¬ (crT T M s m e).getD (w.toNat + 1) 0 - (crT T M s m e).getD w.toNat 0 ≤ 8 * (x - (crT T M s m e).getD w.toNat 0 - mvd j w) * (spsL T M (crP T M s m e)).getD w.toNat 0 by omega)]
        exact ⟨hG (by rw [hP, decide_eq_true hd]), hν, by simp⟩
      · rw [decide_eq_true (show (crT T M s m e).getD (w.toNat + 1) 0 - (crT T M s m e).getD w.toNat 0 ≤ 8 * (x - (crT T M s m e).getD w.toNat 0 - mvd j w) * (spsL T M (crP T M s m e)).getD w.toNat 0 by omega)]
        exact ⟨(hN (by rw [hP, decide_eq_false hd])).symm, rfl⟩
    · have hT : (decide (w < 1) || decide (((crT T M s m e).length : Int) ≤ w + 1)) = true := by
        simp only [Bool.or_eq_true, decide_eq_true_eq]; omega
      rw [hT]
      refine ⟨(hN ?_).symm, rfl⟩
      rw [hP]
      by_cases h1 : 1 ≤ w
      · rw [decide_eq_false (show ¬ w < ((spsL T M (crP T M s m e)).length : Int) by omega), Bool.and_false, Bool.false_and]
      · rw [decide_eq_false h1, Bool.false_and, Bool.false_and]
set_option maxRecDepth 100000 in
theorem rtoler_L3_entry1 (T : Int) (M : Int) (s : Int) (m : List (List Int)) (j : List Int) (d : List Int) (u : List Int) (e : Int) (i : Int) (q : Int) : (((rtoler_L3_I T M s m j d u e i q (0 : Int) (-(1 : Int))) ∧ (((0 : Int) = (0 : Int)) ∧ (((-(1 : Int)) = (-(1 : Int))) ∧ (((decide (q < (((List.length u) : Nat) : Int))) = (decide (q < (((List.length u) : Nat) : Int)))) ∧ (((((List.length u) : Nat) : Int) = (((List.length u) : Nat) : Int)) ∧ (True ∧ (True ∧ ((q = q) ∧ ((q = q) ∧ (((spc T M) = (spc T M)) ∧ (True ∧ (True ∧ (((0 : Int) = (0 : Int)) ∧ ((Bool.false = Bool.false) ∧ (True ∧ (((T = T) ∧ (M = M)) ∧ (((s = s) ∧ True) ∧ ((True ∧ (True ∧ True)) ∧ ((m = m) ∧ ((j = j) ∧ ((d = d) ∧ ((u = u) ∧ (((crT T M s m e) = (crT T M s m e)) ∧ (((eL T M s (posOf s m e)) = (eL T M s (posOf s m e))) ∧ True))))))))))))))))))))))))) = rtoler_L3_E T M s m j d u e i q (rtoler_L3_S1 T M s m j d u e i q) := by kernel_rfl
theorem rtoler_L3_1 (T : Int) (M : Int) (s : Int) (m : List (List Int)) (j : List Int) (d : List Int) (u : List Int) (e : Int) (i : Int) (q : Int) (p0 : (fewB s m e) = true) (hI_L1 : rtoler_L1_I T M s m j d u e i) (hI_L2 : rtoler_L2_I T M s m j d u e i q) (h : ((rtoler_L3_I T M s m j d u e i q (0 : Int) (-(1 : Int))) ∧ (((0 : Int) = (0 : Int)) ∧ (((-(1 : Int)) = (-(1 : Int))) ∧ (((decide (q < (((List.length u) : Nat) : Int))) = (decide (q < (((List.length u) : Nat) : Int)))) ∧ (((((List.length u) : Nat) : Int) = (((List.length u) : Nat) : Int)) ∧ (True ∧ (True ∧ ((q = q) ∧ ((q = q) ∧ (((spc T M) = (spc T M)) ∧ (True ∧ (True ∧ (((0 : Int) = (0 : Int)) ∧ ((Bool.false = Bool.false) ∧ (True ∧ (((T = T) ∧ (M = M)) ∧ (((s = s) ∧ True) ∧ ((True ∧ (True ∧ True)) ∧ ((m = m) ∧ ((j = j) ∧ ((d = d) ∧ ((u = u) ∧ (((crT T M s m e) = (crT T M s m e)) ∧ (((eL T M s (posOf s m e)) = (eL T M s (posOf s m e))) ∧ True))))))))))))))))))))))))) : LoopP (ex Try.prog (conOf [rcrank_e, rlong_e, rfar_e, rpositions_e, rspace_e, rmoved_e, rabs_e, rsteady_e]) (subC (subC (bodyOf Try.f34) [1, 1, 1, 1, 1, 1, 1, 1, 1, 0, 1, 0, 0]) [1, 0, 0, 1, 0, 1, 0, 0])) (kont Try.prog (conOf [rcrank_e, rlong_e, rfar_e, rpositions_e, rspace_e, rmoved_e, rabs_e, rsteady_e]) (subC (bodyOf Try.f34) [1, 1, 1, 1, 1, 1, 1, 1, 1, 0, 1, 0, 0]) [1, 0, 0, 1, 0, 1, 0] (nextE (rtoler_L2_N T M s m j d u e i q) (kont Try.prog (conOf [rcrank_e, rlong_e, rfar_e, rpositions_e, rspace_e, rmoved_e, rabs_e, rsteady_e]) (bodyOf Try.f34) [1, 1, 1, 1, 1, 1, 1, 1, 1, 0, 1, 0] (retPost Try.prog Try.f34 4 (rtoler_res T M s m j d u e))))) (rtoler_L3_S1 T M s m j d u e i q) := by
  have hE : rtoler_L3_E T M s m j d u e i q (rtoler_L3_S1 T M s m j d u e i q) := Eq.mp (rtoler_L3_entry1 T M s m j d u e i q) h
  unfold rtoler_L3_E at hE
  obtain ⟨k, hE⟩ := getI_of hE
  obtain ⟨w, hE⟩ := getI_of hE
  refine loop_of (α := (Int) × (Int)) (fun xx_ => rtoler_L3_F T M s m j d u e i q xx_.1 xx_.2) (fun xx_ => rtoler_L3_I T M s m j d u e i q xx_.1 xx_.2) (fun xx_ => rtoler_L3_m T M s m j d u e i q xx_.1 xx_.2) (fun xx_ => rtoler_L3_N T M s m j d u e i q xx_.1 xx_.2) (fun xx_ => rtoler_L3_T T M s m j d u e i q xx_.1 xx_.2) (fun xx_ s_ h => ?_) ⟨⟨k, w⟩, hE⟩ (fun xx_ => rtoler_L3_tree T M s m j d u e i q xx_.1 xx_.2) (fun xx_ hI => rtoler_L3_round T M s m j d u e i q xx_.1 xx_.2 p0 hI_L1 hI_L2 hI)
  unfold rtoler_L3_N at h
  obtain ⟨k, h⟩ := getI_of h
  obtain ⟨w, h⟩ := getI_of h
  exact ⟨⟨k, w⟩, h⟩
def rtoler_L2_T (T : Int) (M : Int) (s : Int) (m : List (List Int)) (j : List Int) (d : List Int) (u : List Int) (e : Int) (i : Int) (q : Int) : Prop := (cnd (decide (q < (((List.length u) : Nat) : Int)))
  (LoopP (ex Try.prog (conOf [rcrank_e, rlong_e, rfar_e, rpositions_e, rspace_e, rmoved_e, rabs_e, rsteady_e]) (subC (subC (bodyOf Try.f34) [1, 1, 1, 1, 1, 1, 1, 1, 1, 0, 1, 0, 0]) [1, 0, 0, 1, 0, 1, 0, 0])) (kont Try.prog (conOf [rcrank_e, rlong_e, rfar_e, rpositions_e, rspace_e, rmoved_e, rabs_e, rsteady_e]) (subC (bodyOf Try.f34) [1, 1, 1, 1, 1, 1, 1, 1, 1, 0, 1, 0, 0]) [1, 0, 0, 1, 0, 1, 0] (nextE (rtoler_L2_N T M s m j d u e i q) (kont Try.prog (conOf [rcrank_e, rlong_e, rfar_e, rpositions_e, rspace_e, rmoved_e, rabs_e, rsteady_e]) (bodyOf Try.f34) [1, 1, 1, 1, 1, 1, 1, 1, 1, 0, 1, 0] (retPost Try.prog Try.f34 4 (rtoler_res T M s m j d u e))))) (rtoler_L3_S1 T M s m j d u e i q))
  ((Bool.true = (toB T M s m j d u e)) ∧ ((0 : Int) = (toE T M s m j d u e))))
set_option maxRecDepth 100000 in
theorem rtoler_L2_tree (T : Int) (M : Int) (s : Int) (m : List (List Int)) (j : List Int) (d : List Int) (u : List Int) (e : Int) (i : Int) (q : Int) : rtoler_L2_T T M s m j d u e i q = ex Try.prog (conOf [rcrank_e, rlong_e, rfar_e, rpositions_e, rspace_e, rmoved_e, rabs_e, rsteady_e]) (subC (bodyOf Try.f34) [1, 1, 1, 1, 1, 1, 1, 1, 1, 0, 1, 0, 0]) (nextE (rtoler_L2_N T M s m j d u e i q) (kont Try.prog (conOf [rcrank_e, rlong_e, rfar_e, rpositions_e, rspace_e, rmoved_e, rabs_e, rsteady_e]) (bodyOf Try.f34) [1, 1, 1, 1, 1, 1, 1, 1, 1, 0, 1, 0] (retPost Try.prog Try.f34 4 (rtoler_res T M s m j d u e)))) (rtoler_L2_F T M s m j d u e i q) := by kernel_rfl
set_option maxRecDepth 100000 in
theorem rtoler_L2_round (T : Int) (M : Int) (s : Int) (m : List (List Int)) (j : List Int) (d : List Int) (u : List Int) (e : Int) (i : Int) (q : Int) (p0 : (fewB s m e) = true) (hI_L1 : rtoler_L1_I T M s m j d u e i) (hI_L2 : rtoler_L2_I T M s m j d u e i q) : rtoler_L2_T T M s m j d u e i q := by
  obtain ⟨⟨hE, hd⟩, ⟨a1, a2⟩, a3⟩ := hI_L1
  obtain ⟨⟨b1, b2⟩, b3, b4⟩ := hI_L2
  unfold rtoler_L2_T
  by_cases hq : q < u.length
  · rw [decide_eq_true hq]
    exact rtoler_L3_1 T M s m j d u e i q p0 ⟨⟨hE, hd⟩, ⟨a1, a2⟩, a3⟩ ⟨⟨b1, b2⟩, b3, b4⟩ ⟨⟨⟨by omega, by omega⟩, rfl, hq⟩, by simp⟩
  · rw [decide_eq_false hq]
    rw [List.drop_eq_nil_of_le (by omega)] at b3
    refine ⟨?_, hE.symm⟩
    rw [toB_eq hE p0 hd, b3, List.all_nil, Bool.and_true]
    exact (allB_iff.2 fun n hn => allB_iff.1 a3 n (by omega)).symm
set_option maxRecDepth 100000 in
theorem rtoler_L2_entry1 (T : Int) (M : Int) (s : Int) (m : List (List Int)) (j : List Int) (d : List Int) (u : List Int) (e : Int) (i : Int) : (((rtoler_L2_I T M s m j d u e i (0 : Int)) ∧ (((0 : Int) = (0 : Int)) ∧ (((spc T M) = (spc T M)) ∧ (True ∧ (True ∧ (((0 : Int) = (0 : Int)) ∧ ((Bool.false = Bool.false) ∧ (True ∧ (((T = T) ∧ (M = M)) ∧ (((s = s) ∧ True) ∧ ((True ∧ (True ∧ True)) ∧ ((m = m) ∧ ((j = j) ∧ ((d = d) ∧ ((u = u) ∧ (((crT T M s m e) = (crT T M s m e)) ∧ (((eL T M s (posOf s m e)) = (eL T M s (posOf s m e))) ∧ True)))))))))))))))))) = rtoler_L2_E T M s m j d u e i (rtoler_L2_S1 T M s m j d u e i) := by kernel_rfl
theorem rtoler_L2_1 (T : Int) (M : Int) (s : Int) (m : List (List Int)) (j : List Int) (d : List Int) (u : List Int) (e : Int) (i : Int) (p0 : (fewB s m e) = true) (hI_L1 : rtoler_L1_I T M s m j d u e i) (h : ((rtoler_L2_I T M s m j d u e i (0 : Int)) ∧ (((0 : Int) = (0 : Int)) ∧ (((spc T M) = (spc T M)) ∧ (True ∧ (True ∧ (((0 : Int) = (0 : Int)) ∧ ((Bool.false = Bool.false) ∧ (True ∧ (((T = T) ∧ (M = M)) ∧ (((s = s) ∧ True) ∧ ((True ∧ (True ∧ True)) ∧ ((m = m) ∧ ((j = j) ∧ ((d = d) ∧ ((u = u) ∧ (((crT T M s m e) = (crT T M s m e)) ∧ (((eL T M s (posOf s m e)) = (eL T M s (posOf s m e))) ∧ True)))))))))))))))))) : LoopP (ex Try.prog (conOf [rcrank_e, rlong_e, rfar_e, rpositions_e, rspace_e, rmoved_e, rabs_e, rsteady_e]) (subC (bodyOf Try.f34) [1, 1, 1, 1, 1, 1, 1, 1, 1, 0, 1, 0, 0])) (kont Try.prog (conOf [rcrank_e, rlong_e, rfar_e, rpositions_e, rspace_e, rmoved_e, rabs_e, rsteady_e]) (bodyOf Try.f34) [1, 1, 1, 1, 1, 1, 1, 1, 1, 0, 1, 0] (retPost Try.prog Try.f34 4 (rtoler_res T M s m j d u e))) (rtoler_L2_S1 T M s m j d u e i) := by
  have hE : rtoler_L2_E T M s m j d u e i (rtoler_L2_S1 T M s m j d u e i) := Eq.mp (rtoler_L2_entry1 T M s m j d u e i) h
  unfold rtoler_L2_E at hE
  obtain ⟨q, hE⟩ := getI_of hE
  refine loop_of (α := (Int)) (fun xx_ => rtoler_L2_F T M s m j d u e i xx_) (fun xx_ => rtoler_L2_I T M s m j d u e i xx_) (fun xx_ => rtoler_L2_m T M s m j d u e i xx_) (fun xx_ => rtoler_L2_N T M s m j d u e i xx_) (fun xx_ => rtoler_L2_T T M s m j d u e i xx_) (fun xx_ s_ h => ?_) ⟨q, hE⟩ (fun xx_ => rtoler_L2_tree T M s m j d u e i xx_) (fun xx_ hI => rtoler_L2_round T M s m j d u e i xx_ p0 hI_L1 hI)
  unfold rtoler_L2_N at h
  obtain ⟨q, h⟩ := getI_of h
  exact ⟨q, h⟩
def rtoler_L1_T (T : Int) (M : Int) (s : Int) (m : List (List Int)) (j : List Int) (d : List Int) (u : List Int) (e : Int) (i : Int) : Prop := (cnd (decide ((Go.IntKind.wrap Go.IntKind.i64 (i + (1 : Int))) < (((List.length (crT T M s m e)) : Nat) : Int)))
  (cnd (decide ((0 : Int) ≤ (Go.IntKind.wrap Go.IntKind.i64 (i + (1 : Int)))))
    (cnd (decide ((Go.IntKind.wrap Go.IntKind.i64 (i + (1 : Int))) < (((List.length (eL T M s (posOf s m e))) : Nat) : Int)))
      (cnd (decide ((0 : Int) ≤ i))
        (cnd (decide (i < (((List.length (eL T M s (posOf s m e))) : Nat) : Int)))
          (cnd (decide ((spc T M) ≠ (0 : Int)))
            (cnd (decide ((0 : Int) ≤ i))
              (cnd (isJ (mvd j i))
                (cnd (decide ((0 : Int) ≤ (Go.IntKind.wrap Go.IntKind.i64 (i + (1 : Int)))))
                  (cnd (decide ((Go.IntKind.wrap Go.IntKind.i64 (i + (1 : Int))) < (((List.length (crT T M s m e)) : Nat) : Int)))
                    (cnd (decide ((0 : Int) ≤ i))
                      (cnd (decide (i < (((List.length (crT T M s m e)) : Nat) : Int)))
                        (cnd ((!((decide ((Go.IntKind.wrap Go.IntKind.i64 ((List.getD (crT T M s m e) (Int.toNat (Go.IntKind.wrap Go.IntKind.i64 (i + (1 : Int)))) (0 : Int)) - (List.getD (crT T M s m e) (Int.toNat i) (0 : Int)))) < (Go.IntKind.wrap Go.IntKind.i64 ((Go.IntKind.wrap Go.IntKind.i64 ((64 : Int) * (aab (mvd j i)))) * (Go.IntKind.wrap Go.IntKind.i64 (Int.tdiv (Go.IntKind.wrap Go.IntKind.i64 ((List.getD (eL T M s (posOf s m e)) (Int.toNat (Go.IntKind.wrap Go.IntKind.i64 (i + (1 : Int)))) (0 : Int)) - (List.getD (eL T M s (posOf s m e)) (Int.toNat i) (0 : Int)))) (spc T M))))))) == Bool.false)) || (decide ((0 : Int) ≤ (Go.IntKind.wrap Go.IntKind.i64 (i + (1 : Int))))))
                          (cnd ((!((decide ((Go.IntKind.wrap Go.IntKind.i64 ((List.getD (crT T M s m e) (Int.toNat (Go.IntKind.wrap Go.IntKind.i64 (i + (1 : Int)))) (0 : Int)) - (List.getD (crT T M s m e) (Int.toNat i) (0 : Int)))) < (Go.IntKind.wrap Go.IntKind.i64 ((Go.IntKind.wrap Go.IntKind.i64 ((64 : Int) * (aab (mvd j i)))) * (Go.IntKind.wrap Go.IntKind.i64 (Int.tdiv (Go.IntKind.wrap Go.IntKind.i64 ((List.getD (eL T M s (posOf s m e)) (Int.toNat (Go.IntKind.wrap Go.IntKind.i64 (i + (1 : Int)))) (0 : Int)) - (List.getD (eL T M s (posOf s m e)) (Int.toNat i) (0 : Int)))) (spc T M))))))) == Bool.false)) || (isJ (mvd j (Go.IntKind.wrap Go.IntKind.i64 (i + (1 : Int))))))
                            (cnd ((!((decide ((Go.IntKind.wrap Go.IntKind.i64 ((List.getD (crT T M s m e) (Int.toNat (Go.IntKind.wrap Go.IntKind.i64 (i + (1 : Int)))) (0 : Int)) - (List.getD (crT T M s m e) (Int.toNat i) (0 : Int)))) < (Go.IntKind.wrap Go.IntKind.i64 ((Go.IntKind.wrap Go.IntKind.i64 ((64 : Int) * (aab (mvd j i)))) * (Go.IntKind.wrap Go.IntKind.i64 (Int.tdiv (Go.IntKind.wrap Go.IntKind.i64 ((List.getD (eL T M s (posOf s m e)) (Int.toNat (Go.IntKind.wrap Go.IntKind.i64 (i + (1 : Int)))) (0 : Int)) - (List.getD (eL T M s (posOf s m e)) (Int.toNat i) (0 : Int)))) (spc T M))))))) == Bool.false)) || (decide ((0 : Int) ≤ (Go.IntKind.wrap Go.IntKind.i64 (i + (1 : Int))))))
                              (cnd ((!((decide ((Go.IntKind.wrap Go.IntKind.i64 ((List.getD (crT T M s m e) (Int.toNat (Go.IntKind.wrap Go.IntKind.i64 (i + (1 : Int)))) (0 : Int)) - (List.getD (crT T M s m e) (Int.toNat i) (0 : Int)))) < (Go.IntKind.wrap Go.IntKind.i64 ((Go.IntKind.wrap Go.IntKind.i64 ((64 : Int) * (aab (mvd j i)))) * (Go.IntKind.wrap Go.IntKind.i64 (Int.tdiv (Go.IntKind.wrap Go.IntKind.i64 ((List.getD (eL T M s (posOf s m e)) (Int.toNat (Go.IntKind.wrap Go.IntKind.i64 (i + (1 : Int)))) (0 : Int)) - (List.getD (eL T M s (posOf s m e)) (Int.toNat i) (0 : Int)))) (spc T M))))))) == Bool.false)) || (decide ((Go.IntKind.wrap Go.IntKind.i64 (i + (1 : Int))) < (((List.length (crT T M s m e)) : Nat) : Int))))
                                (cnd ((!((decide ((Go.IntKind.wrap Go.IntKind.i64 ((List.getD (crT T M s m e) (Int.toNat (Go.IntKind.wrap Go.IntKind.i64 (i + (1 : Int)))) (0 : Int)) - (List.getD (crT T M s m e) (Int.toNat i) (0 : Int)))) < (Go.IntKind.wrap Go.IntKind.i64 ((Go.IntKind.wrap Go.IntKind.i64 ((64 : Int) * (aab (mvd j i)))) * (Go.IntKind.wrap Go.IntKind.i64 (Int.tdiv (Go.IntKind.wrap Go.IntKind.i64 ((List.getD (eL T M s (posOf s m e)) (Int.toNat (Go.IntKind.wrap Go.IntKind.i64 (i + (1 : Int)))) (0 : Int)) - (List.getD (eL T M s (posOf s m e)) (Int.toNat i) (0 : Int)))) (spc T M))))))) == Bool.false)) || (decide ((0 : Int) ≤ i)))
                                  (cnd ((!((decide ((Go.IntKind.wrap Go.IntKind.i64 ((List.getD (crT T M s m e) (Int.toNat (Go.IntKind.wrap Go.IntKind.i64 (i + (1 : Int)))) (0 : Int)) - (List.getD (crT T M s m e) (Int.toNat i) (0 : Int)))) < (Go.IntKind.wrap Go.IntKind.i64 ((Go.IntKind.wrap Go.IntKind.i64 ((64 : Int) * (aab (mvd j i)))) * (Go.IntKind.wrap Go.IntKind.i64 (Int.tdiv (Go.IntKind.wrap Go.IntKind.i64 ((List.getD (eL T M s (posOf s m e)) (Int.toNat (Go.IntKind.wrap Go.IntKind.i64 (i + (1 : Int)))) (0 : Int)) - (List.getD (eL T M s (posOf s m e)) (Int.toNat i) (0 : Int)))) (spc T M))))))) == Bool.false)) || (decide (i < (((List.length (crT T M s m e)) : Nat) : Int))))
                                    (cnd ((decide ((Go.IntKind.wrap Go.IntKind.i64 ((List.getD (crT T M s m e) (Int.toNat (Go.IntKind.wrap Go.IntKind.i64 (i + (1 : Int)))) (0 : Int)) - (List.getD (crT T M s m e) (Int.toNat i) (0 : Int)))) < (Go.IntKind.wrap Go.IntKind.i64 ((Go.IntKind.wrap Go.IntKind.i64 ((64 : Int) * (aab (mvd j i)))) * (Go.IntKind.wrap Go.IntKind.i64 (Int.tdiv (Go.IntKind.wrap Go.IntKind.i64 ((List.getD (eL T M s (posOf s m e)) (Int.toNat (Go.IntKind.wrap Go.IntKind.i64 (i + (1 : Int)))) (0 : Int)) - (List.getD (eL T M s (posOf s m e)) (Int.toNat i) (0 : Int)))) (spc T M))))))) || (decide ((Go.IntKind.wrap Go.IntKind.i64 ((List.getD (crT T M s m e) (Int.toNat (Go.IntKind.wrap Go.IntKind.i64 (i + (1 : Int)))) (0 : Int)) - (List.getD (crT T M s m e) (Int.toNat i) (0 : Int)))) < (Go.IntKind.wrap Go.IntKind.i64 ((Go.IntKind.wrap Go.IntKind.i64 ((64 : Int) * (aab (mvd j (Go.IntKind.wrap Go.IntKind.i64 (i + (1 : Int))))))) * (Go.IntKind.wrap Go.IntKind.i64 (Int.tdiv (Go.IntKind.wrap Go.IntKind.i64 ((List.getD (eL T M s (posOf s m e)) (Int.toNat (Go.IntKind.wrap Go.IntKind.i64 (i + (1 : Int)))) (0 : Int)) - (List.getD (eL T M s (posOf s m e)) (Int.toNat i) (0 : Int)))) (spc T M))))))))
                                      ((Bool.false = (toB T M s m j d u e)) ∧ ((0 : Int) = (toE T M s m j d u e)))
                                      (cnd ((!((decide ((0 : Int) < i)) == Bool.true)) || (decide ((0 : Int) ≤ (Go.IntKind.wrap Go.IntKind.i64 (i - (1 : Int))))))
                                        (cnd ((!((decide ((0 : Int) < i)) == Bool.true)) || (decide ((Go.IntKind.wrap Go.IntKind.i64 (i - (1 : Int))) < (((List.length (crT T M s m e)) : Nat) : Int))))
                                          (cnd ((!((decide ((0 : Int) < i)) == Bool.true)) || (decide ((0 : Int) ≤ (Go.IntKind.wrap Go.IntKind.i64 (i + (1 : Int))))))
                                            (cnd ((!((decide ((0 : Int) < i)) == Bool.true)) || (decide ((Go.IntKind.wrap Go.IntKind.i64 (i + (1 : Int))) < (((List.length (crT T M s m e)) : Nat) : Int))))
                                              (cnd ((!((decide ((0 : Int) < i)) == Bool.true)) || (mValid s m))
                                                (cnd ((!((decide ((0 : Int) < i)) == Bool.true)) || (((decide ((0 : Int) ≤ (gmax (0 : Int) (Go.IntKind.wrap Go.IntKind.i64 ((List.getD (crT T M s m e) (Int.toNat (Go.IntKind.wrap Go.IntKind.i64 (i - (1 : Int)))) (0 : Int)) - (1 : Int)))))) && (decide ((gmax (0 : Int) (Go.IntKind.wrap Go.IntKind.i64 ((List.getD (crT T M s m e) (Int.toNat (Go.IntKind.wrap Go.IntKind.i64 (i - (1 : Int)))) (0 : Int)) - (1 : Int)))) < (List.getD (crT T M s m e) (Int.toNat (Go.IntKind.wrap Go.IntKind.i64 (i + (1 : Int)))) (0 : Int))))) && (decide ((List.getD (crT T M s m e) (Int.toNat (Go.IntKind.wrap Go.IntKind.i64 (i + (1 : Int)))) (0 : Int)) ≤ (1099511627776 : Int)))))
                                                  (cnd ((decide ((0 : Int) < i)) && (!((!(decide ((lsI m (gmax (0 : Int) (Go.IntKind.wrap Go.IntKind.i64 ((List.getD (crT T M s m e) (Int.toNat (Go.IntKind.wrap Go.IntKind.i64 (i - (1 : Int)))) (0 : Int)) - (1 : Int)))) (List.getD (crT T M s m e) (Int.toNat (Go.IntKind.wrap Go.IntKind.i64 (i + (1 : Int)))) (0 : Int))) = (0 : Int)))) && (decide (((16 : Int) * (grI m (gmax (0 : Int) (Go.IntKind.wrap Go.IntKind.i64 ((List.getD (crT T M s m e) (Int.toNat (Go.IntKind.wrap Go.IntKind.i64 (i - (1 : Int)))) (0 : Int)) - (1 : Int)))) (List.getD (crT T M s m e) (Int.toNat (Go.IntKind.wrap Go.IntKind.i64 (i + (1 : Int)))) (0 : Int)))) ≤ ((17 : Int) * (lsI m (gmax (0 : Int) (Go.IntKind.wrap Go.IntKind.i64 ((List.getD (crT T M s m e) (Int.toNat (Go.IntKind.wrap Go.IntKind.i64 (i - (1 : Int)))) (0 : Int)) - (1 : Int)))) (List.getD (crT T M s m e) (Int.toNat (Go.IntKind.wrap Go.IntKind.i64 (i + (1 : Int)))) (0 : Int)))))))))
                                                    ((Bool.false = (toB T M s m j d u e)) ∧ ((0 : Int) = (toE T M s m j d u e)))
                                                    ((rtoler_L1_I T M s m j d u e (Go.IntKind.wrap Go.IntKind.i64 (i + (1 : Int)))) ∧ (((rtoler_L1_m T M s m j d u e (Go.IntKind.wrap Go.IntKind.i64 (i + (1 : Int)))) < (rtoler_L1_m T M s m j d u e i)) ∧ (((Go.IntKind.wrap Go.IntKind.i64 (i + (1 : Int))) = (Go.IntKind.wrap Go.IntKind.i64 (i + (1 : Int)))) ∧ (((spc T M) = (spc T M)) ∧ (True ∧ (True ∧ (((0 : Int) = (0 : Int)) ∧ ((Bool.false = Bool.false) ∧ (True ∧ (True ∧ (((T = T) ∧ (M = M)) ∧ (((s = s) ∧ True) ∧ ((True ∧ (True ∧ True)) ∧ ((m = m) ∧ ((j = j) ∧ ((d = d) ∧ ((u = u) ∧ (((crT T M s m e) = (crT T M s m e)) ∧ (((eL T M s (posOf s m e)) = (eL T M s (posOf s m e))) ∧ True))))))))))))))))))))
                                                  False)
                                                False)
                                              False)
                                            False)
                                          False)
                                        False))
                                    False)
                                  False)
                                False)
                              False)
                            False)
                          False)
                        False)
                      False)
                    False)
                  False)
                False)
              False)
            False)
          False)
        False)
      False)
    False)
  (LoopP (ex Try.prog (conOf [rcrank_e, rlong_e, rfar_e, rpositions_e, rspace_e, rmoved_e, rabs_e, rsteady_e]) (subC (bodyOf Try.f34) [1, 1, 1, 1, 1, 1, 1, 1, 1, 0, 1, 0, 0])) (kont Try.prog (conOf [rcrank_e, rlong_e, rfar_e, rpositions_e, rspace_e, rmoved_e, rabs_e, rsteady_e]) (bodyOf Try.f34) [1, 1, 1, 1, 1, 1, 1, 1, 1, 0, 1, 0] (retPost Try.prog Try.f34 4 (rtoler_res T M s m j d u e))) (rtoler_L2_S1 T M s m j d u e i)))
set_option maxRecDepth 100000 in
theorem rtoler_L1_tree (T : Int) (M : Int) (s : Int) (m : List (List Int)) (j : List Int) (d : List Int) (u : List Int) (e : Int) (i : Int) : rtoler_L1_T T M s m j d u e i = ex Try.prog (conOf [rcrank_e, rlong_e, rfar_e, rpositions_e, rspace_e, rmoved_e, rabs_e, rsteady_e]) (subC (bodyOf Try.f34) [1, 1, 1, 1, 1, 1, 1, 1, 0, 1, 0, 0]) (nextE (rtoler_L1_N T M s m j d u e i) (kont Try.prog (conOf [rcrank_e, rlong_e, rfar_e, rpositions_e, rspace_e, rmoved_e, rabs_e, rsteady_e]) (bodyOf Try.f34) [1, 1, 1, 1, 1, 1, 1, 1, 0, 1, 0] (retPost Try.prog Try.f34 4 (rtoler_res T M s m j d u e)))) (rtoler_L1_F T M s m j d u e i) := by kernel_rfl
set_option maxRecDepth 100000 in
theorem rtoler_L1_round (T : Int) (M : Int) (s : Int) (m : List (List Int)) (j : List Int) (d : List Int) (u : List Int) (e : Int) (i : Int) (p0 : (fewB s m e) = true) (hI_L1 : rtoler_L1_I T M s m j d u e i) : rtoler_L1_T T M s m j d u e i := by
  obtain ⟨⟨hE, hd⟩, ⟨a1, a2⟩, a3⟩ := hI_L1
  obtain ⟨z, z1, z2, z3, z4, z5, z6⟩ := to_facts hE
  obtain ⟨f1, f2, f3, f4, f5, f6, f7, f8, f9⟩ := cr_facts z p0
  obtain ⟨c1, c2, c3⟩ := cr_valid z p0
  obtain ⟨v1, v2, v3⟩ := vE_iff.1 c1
  obtain ⟨b0, b1, b2, b3⟩ := spc_bd f1
  have hB := toB_eq hE p0 hd
  have hF : calmP (crT T M s m e) (spsL T M (crP T M s m e)) j i.toNat = true → stdP (crT T M s m e) m i.toNat = true → i + 1 ≤ 1000 → rtoler_L1_I T M s m j d u e (i + 1) := fun h1 h2 h3 => ⟨⟨hE, hd⟩, ⟨by omega, h3⟩, by rw [show (i + 1).toNat = i.toNat + 1 by omega, allB, a3, h1, h2]; rfl⟩
  have hμ : i + 1 ≤ 1000 → rtoler_L1_m T M s m j d u e (i + 1) < rtoler_L1_m T M s m j d u e i := fun h => by unfold rtoler_L1_m; omega
  unfold rtoler_L1_T
  rw [w64 (n := i + 1) (by omega) (by omega), w64 (n := i - 1) (by omega) (by omega), show (i + 1).toNat = i.toNat + 1 by omega, show (i - 1).toNat = i.toNat - 1 by omega]
  by_cases hi : i + 1 < (crT T M s m e).length
  · obtain ⟨k1, k2, k3⟩ := k_eval z p0 (n := i.toNat) (by omega)
    have hN : calmP (crT T M s m e) (spsL T M (crP T M s m e)) j i.toNat = false ∨ stdP (crT T M s m e) m i.toNat = false → toB T M s m j d u e = false := fun h => by
      rw [hB, allB_no (i := i.toNat) (by omega) (by rcases h with h | h <;> rw [h] <;> simp), Bool.false_and]
    have j0 := mvd_J z2 i
    have j1 := mvd_J z2 (i + 1)
    have g0 := aab_bd j0
    have g1 := aab_bd j1
    have t0 := isT_iff.1 (all_get v2 (j := i.toNat) (by omega))
    have t1 := isT_iff.1 (all_get v2 (j := i.toNat + 1) (by omega))
    have t2 := isT_iff.1 (all_get v2 (j := i.toNat - 1) (by omega))
    have hlt := incr_get (j := i.toNat) v3 (by omega)
    have hlt2 : 0 < i → (crT T M s m e).getD (i.toNat - 1) 0 < (crT T M s m e).getD i.toNat 0 := fun h => by
      have := incr_get (j := i.toNat - 1) v3 (by omega)
      rwa [show i.toNat - 1 + 1 = i.toNat by omega] at this
    have m0 := mul_bd (A := 64 * 1099511627776) (show 0 ≤ 64 * aab (mvd j i) by omega) (by omega) k2 k3
    have m1 := mul_bd (A := 64 * 1099511627776) (show 0 ≤ 64 * aab (mvd j (i + 1)) by omega) (by omega) k2 k3
    have hP : calmP (crT T M s m e) (spsL T M (crP T M s m e)) j i.toNat = (decide (64 * aab (mvd j i) * (spsL T M (crP T M s m e)).getD i.toNat 0 ≤ (crT T M s m e).getD (i.toNat + 1) 0 - (crT T M s m e).getD i.toNat 0) && decide (64 * aab (mvd j (i + 1)) * (spsL T M (crP T M s m e)).getD i.toNat 0 ≤ (crT T M s m e).getD (i.toNat + 1) 0 - (crT T M s m e).getD i.toNat 0)) := by
      unfold calmP
      rw [show ((i.toNat : Nat) : Int) = i by omega]
    have hS : stdP (crT T M s m e) m i.toNat = (decide (i.toNat = 0) || (!decide (lsI m (max 0 ((crT T M s m e).getD (i.toNat - 1) 0 - 1)) ((crT T M s m e).getD (i.toNat + 1) 0) = 0) && decide (16 * grI m (max 0 ((crT T M s m e).getD (i.toNat - 1) 0 - 1)) ((crT T M s m e).getD (i.toNat + 1) 0) ≤ 17 * lsI m (max 0 ((crT T M s m e).getD (i.toNat - 1) 0 - 1)) ((crT T M s m e).getD (i.toNat + 1) 0)))) := rfl
    have hg : gmax 0 ((crT T M s m e).getD (i.toNat - 1) 0 - 1) = max 0 ((crT T M s m e).getD (i.toNat - 1) 0 - 1) := by unfold gmax; omega
    rw [k1, j0, j1, f2, w64 (n := (crT T M s m e).getD (i.toNat + 1) 0 - (crT T M s m e).getD i.toNat 0) (by omega) (by omega), w64 (n := 64 * aab (mvd j i)) (by omega) (by omega), w64 (n := 64 * aab (mvd j (i + 1))) (by omega) (by omega), w64 (n := 64 * aab (mvd j i) * (spsL T M (crP T M s m e)).getD i.toNat 0) (by omega) (by omega), w64 (n := 64 * aab (mvd j (i + 1)) * (spsL T M (crP T M s m e)).getD i.toNat 0) (by omega) (by omega), w64 (n := (crT T M s m e).getD (i.toNat - 1) 0 - 1) (by omega) (by omega), hg, hE]
    rw [decide_eq_true hi, decide_eq_true (show 0 ≤ i + 1 by omega), decide_eq_true (show i + 1 < ((eL T M s (posOf s m e)).length : Int) by omega), decide_eq_true a1, decide_eq_true (show i < ((eL T M s (posOf s m e)).length : Int) by omega), decide_eq_true (show spc T M ≠ 0 by omega), decide_eq_true (show i < ((crT T M s m e).length : Int) by omega)]
    simp only [Bool.or_true, cnd]
    refine cnd_i (fun hc => ?_) (fun hc => ?_)
    · refine ⟨(hN (.inl ?_)).symm, trivial⟩
      rw [hP]
      simp only [Bool.or_eq_true, decide_eq_true_eq] at hc
      simp only [Bool.and_eq_false_iff, decide_eq_false_iff_not]
      omega
    · have hcalm : calmP (crT T M s m e) (spsL T M (crP T M s m e)) j i.toNat = true := by
        rw [hP]
        simp only [Bool.or_eq_false_iff, decide_eq_false_iff_not] at hc
        simp only [Bool.and_eq_true, decide_eq_true_eq]
        omega
      by_cases h0 : 0 < i
      · have hl2 := hlt2 h0
        rw [decide_eq_true h0, decide_eq_true (show 0 ≤ i - 1 by omega), decide_eq_true (show i - 1 < ((crT T M s m e).length : Int) by omega), decide_eq_true (show 0 ≤ max 0 ((crT T M s m e).getD (i.toNat - 1) 0 - 1) by omega), decide_eq_true (show max 0 ((crT T M s m e).getD (i.toNat - 1) 0 - 1) < (crT T M s m e).getD (i.toNat + 1) 0 by omega), decide_eq_true (show (crT T M s m e).getD (i.toNat + 1) 0 ≤ 1099511627776 by omega)]
        rw [decide_eq_false (show ¬ i.toNat = 0 by omega), Bool.false_or] at hS
        rw [← hS]
        cases hs : stdP (crT T M s m e) m i.toNat with
        | true => exact ⟨hF hcalm hs (by omega), hμ (by omega), by simp⟩
        | false => exact ⟨(hN (.inr hs)).symm, trivial⟩
      · rw [decide_eq_true (show i.toNat = 0 by omega), Bool.true_or] at hS
        rw [decide_eq_false h0]
        exact ⟨hF hcalm hS (by omega), hμ (by omega), by simp⟩
  · rw [decide_eq_false hi]
    exact rtoler_L2_1 T M s m j d u e i p0 ⟨⟨hE, hd⟩, ⟨a1, a2⟩, a3⟩ ⟨⟨⟨by omega, by omega⟩, rfl, hi⟩, by simp⟩
set_option maxRecDepth 100000 in
theorem rtoler_L1_entry1 (T : Int) (M : Int) (s : Int) (m : List (List Int)) (j : List Int) (d : List Int) (u : List Int) (e : Int) : (((rtoler_L1_I T M s m j d u e (0 : Int)) ∧ (((0 : Int) = (0 : Int)) ∧ (((spc T M) = (spc T M)) ∧ (True ∧ (True ∧ (((0 : Int) = (0 : Int)) ∧ ((Bool.false = Bool.false) ∧ (True ∧ (True ∧ (((T = T) ∧ (M = M)) ∧ (((s = s) ∧ True) ∧ ((True ∧ (True ∧ True)) ∧ ((m = m) ∧ ((j = j) ∧ ((d = d) ∧ ((u = u) ∧ (((crT T M s m e) = (crT T M s m e)) ∧ (((eL T M s (posOf s m e)) = (eL T M s (posOf s m e))) ∧ True))))))))))))))))))) = rtoler_L1_E T M s m j d u e (rtoler_L1_S1 T M s m j d u e) := by kernel_rfl
theorem rtoler_L1_1 (T : Int) (M : Int) (s : Int) (m : List (List Int)) (j : List Int) (d : List Int) (u : List Int) (e : Int) (p0 : (fewB s m e) = true) (h : ((rtoler_L1_I T M s m j d u e (0 : Int)) ∧ (((0 : Int) = (0 : Int)) ∧ (((spc T M) = (spc T M)) ∧ (True ∧ (True ∧ (((0 : Int) = (0 : Int)) ∧ ((Bool.false = Bool.false) ∧ (True ∧ (True ∧ (((T = T) ∧ (M = M)) ∧ (((s = s) ∧ True) ∧ ((True ∧ (True ∧ True)) ∧ ((m = m) ∧ ((j = j) ∧ ((d = d) ∧ ((u = u) ∧ (((crT T M s m e) = (crT T M s m e)) ∧ (((eL T M s (posOf s m e)) = (eL T M s (posOf s m e))) ∧ True))))))))))))))))))) : LoopP (ex Try.prog (conOf [rcrank_e, rlong_e, rfar_e, rpositions_e, rspace_e, rmoved_e, rabs_e, rsteady_e]) (subC (bodyOf Try.f34) [1, 1, 1, 1, 1, 1, 1, 1, 0, 1, 0, 0])) (kont Try.prog (conOf [rcrank_e, rlong_e, rfar_e, rpositions_e, rspace_e, rmoved_e, rabs_e, rsteady_e]) (bodyOf Try.f34) [1, 1, 1, 1, 1, 1, 1, 1, 0, 1, 0] (retPost Try.prog Try.f34 4 (rtoler_res T M s m j d u e))) (rtoler_L1_S1 T M s m j d u e) := by
  have hE : rtoler_L1_E T M s m j d u e (rtoler_L1_S1 T M s m j d u e) := Eq.mp (rtoler_L1_entry1 T M s m j d u e) h
  unfold rtoler_L1_E at hE
  obtain ⟨i, hE⟩ := getI_of hE
  refine loop_of (α := (Int)) (fun xx_ => rtoler_L1_F T M s m j d u e xx_) (fun xx_ => rtoler_L1_I T M s m j d u e xx_) (fun xx_ => rtoler_L1_m T M s m j d u e xx_) (fun xx_ => rtoler_L1_N T M s m j d u e xx_) (fun xx_ => rtoler_L1_T T M s m j d u e xx_) (fun xx_ s_ h => ?_) ⟨i, hE⟩ (fun xx_ => rtoler_L1_tree T M s m j d u e xx_) (fun xx_ hI => rtoler_L1_round T M s m j d u e xx_ p0 hI)
  unfold rtoler_L1_N at h
  obtain ⟨i, h⟩ := getI_of h
  exact ⟨i, h⟩
set_option maxRecDepth 100000 in
theorem rtoler_tree (T : Int) (M : Int) (s : Int) (m : List (List Int)) (j : List Int) (d : List Int) (u : List Int) (e : Int) : ((cnd (fewB s m e)
  (cnd (!(decide ((crE (wValid T M) s m e) = (0 : Int))))
    ((Bool.false = (toB T M s m j d u e)) ∧ ((crE (wValid T M) s m e) = (toE T M s m j d u e)))
    (cnd (lngB j d u)
      ((Bool.false = (toB T M s m j d u e)) ∧ ((5 : Int) = (toE T M s m j d u e)))
      (cnd (decide ((((List.length j) : Nat) : Int) ≤ (1000000 : Int)))
        (cnd (decide ((((List.length u) : Nat) : Int) ≤ (1000000 : Int)))
          (cnd (!((List.all j isJ) && (List.all u isT)))
            ((Bool.false = (toB T M s m j d u e)) ∧ ((2 : Int) = (toE T M s m j d u e)))
            (cnd (decide ((0 : Int) < (((List.length d) : Nat) : Int)))
              ((Bool.false = (toB T M s m j d u e)) ∧ ((0 : Int) = (toE T M s m j d u e)))
              (cnd (decide ((crE (wValid T M) s m e) = (0 : Int)))
                (cnd (fewB s m e)
                  (cnd (wValid T M)
                    (LoopP (ex Try.prog (conOf [rcrank_e, rlong_e, rfar_e, rpositions_e, rspace_e, rmoved_e, rabs_e, rsteady_e]) (subC (bodyOf Try.f34) [1, 1, 1, 1, 1, 1, 1, 1, 0, 1, 0, 0])) (kont Try.prog (conOf [rcrank_e, rlong_e, rfar_e, rpositions_e, rspace_e, rmoved_e, rabs_e, rsteady_e]) (bodyOf Try.f34) [1, 1, 1, 1, 1, 1, 1, 1, 0, 1, 0] (retPost Try.prog Try.f34 4 (rtoler_res T M s m j d u e))) (rtoler_L1_S1 T M s m j d u e))
                    False)
                  False)
                False)))
          False)
        False)))
  False)) = EXD Try.prog (conOf [rcrank_e, rlong_e, rfar_e, rpositions_e, rspace_e, rmoved_e, rabs_e, rsteady_e]) Try.f34 [.agg [.int .i64 T, .int .i64 M], .agg [.int .i64 s, .row 0], .agg [.row 1, .row 2, .row 3], .cel (.int .i64 e)] [.recs [.int .i64, .int .i64] m, .ints .i64 j, .ints .i64 d, .ints .i64 u] [] (rtoler_res T M s m j d u e) := by kernel_rfl
theorem rtoler_holds (T : Int) (M : Int) (s : Int) (m : List (List Int)) (j : List Int) (d : List Int) (u : List Int) (e : Int) (p0 : (fewB s m e) = true) : (cnd (fewB s m e)
  (cnd (!(decide ((crE (wValid T M) s m e) = (0 : Int))))
    ((Bool.false = (toB T M s m j d u e)) ∧ ((crE (wValid T M) s m e) = (toE T M s m j d u e)))
    (cnd (lngB j d u)
      ((Bool.false = (toB T M s m j d u e)) ∧ ((5 : Int) = (toE T M s m j d u e)))
      (cnd (decide ((((List.length j) : Nat) : Int) ≤ (1000000 : Int)))
        (cnd (decide ((((List.length u) : Nat) : Int) ≤ (1000000 : Int)))
          (cnd (!((List.all j isJ) && (List.all u isT)))
            ((Bool.false = (toB T M s m j d u e)) ∧ ((2 : Int) = (toE T M s m j d u e)))
            (cnd (decide ((0 : Int) < (((List.length d) : Nat) : Int)))
              ((Bool.false = (toB T M s m j d u e)) ∧ ((0 : Int) = (toE T M s m j d u e)))
              (cnd (decide ((crE (wValid T M) s m e) = (0 : Int)))
                (cnd (fewB s m e)
                  (cnd (wValid T M)
                    (LoopP (ex Try.prog (conOf [rcrank_e, rlong_e, rfar_e, rpositions_e, rspace_e, rmoved_e, rabs_e, rsteady_e]) (subC (bodyOf Try.f34) [1, 1, 1, 1, 1, 1, 1, 1, 0, 1, 0, 0])) (kont Try.prog (conOf [rcrank_e, rlong_e, rfar_e, rpositions_e, rspace_e, rmoved_e, rabs_e, rsteady_e]) (bodyOf Try.f34) [1, 1, 1, 1, 1, 1, 1, 1, 0, 1, 0] (retPost Try.prog Try.f34 4 (rtoler_res T M s m j d u e))) (rtoler_L1_S1 T M s m j d u e))
                    False)
                  False)
                False)))
          False)
        False)))
  False) := by
  rw [p0]
  refine cnd_i (fun _ => ?_) (fun h => by cases h)
  by_cases hz : crE (wValid T M) s m e = 0
  · obtain ⟨f1, f2, f3, f4, f5, f6, f7, f8, f9⟩ := cr_facts hz p0
    rw [decide_eq_true hz]
    cases hl : lngB j d u with
    | true =>
      have hE : toE T M s m j d u e = 5 := by unfold toE; rw [if_pos hz, hl]; rfl
      refine ⟨?_, hE.symm⟩
      unfold toB
      rw [hE]
      simp
    | false =>
      have hlen : j.length ≤ 1000 ∧ d.length ≤ 1000 ∧ u.length ≤ 1000 := by
        unfold lngB at hl
        simp only [Bool.or_eq_false_iff, decide_eq_false_iff_not] at hl
        omega
      rw [decide_eq_true (show (j.length : Int) ≤ 1000000 by omega), decide_eq_true (show (u.length : Int) ≤ 1000000 by omega), f1]
      cases hju : j.all isJ && u.all isT with
      | false =>
        have hE : toE T M s m j d u e = 2 := by
          unfold toE
          rw [if_pos hz, hl, any_not, any_not]
          cases hj : j.all isJ with
          | false => rfl
          | true =>
            rw [hj, Bool.true_and] at hju
            rw [hju]
            rfl
        refine ⟨?_, hE.symm⟩
        unfold toB
        rw [hE]
        simp
      | true =>
        simp only [Bool.and_eq_true] at hju
        have hE : toE T M s m j d u e = 0 := by unfold toE; rw [if_pos hz, hl, any_not, any_not, hju.1, hju.2]; rfl
        by_cases hd : 0 < (d.length : Int)
        · rw [decide_eq_true hd]
          refine ⟨?_, hE.symm⟩
          unfold toB
          rw [decide_eq_false (show ¬ d.length = 0 by omega)]
          simp
        · rw [decide_eq_false hd]
          exact rtoler_L1_1 T M s m j d u e p0 ⟨⟨⟨hE, by omega⟩, ⟨by omega, by omega⟩, rfl⟩, by simp⟩
  · have hE : toE T M s m j d u e = crE (wValid T M) s m e := by unfold toE; rw [if_neg hz]
    rw [decide_eq_false hz]
    refine ⟨?_, hE.symm⟩
    unfold toB
    rw [hE, decide_eq_false hz]
    rfl
set_option maxHeartbeats 2000000 in
theorem rtoler_ok : SoundEnt Try.prog rtoler_e := by
  refine ent_of_ex (Γ := (conOf [rcrank_e, rlong_e, rfar_e, rpositions_e, rspace_e, rmoved_e, rabs_e, rsteady_e])) (conOf_sound (scons rcrank_ok (scons rlong_ok (scons rfar_ok (scons rpositions_ok (scons rspace_ok (scons rmoved_ok (scons rabs_ok (scons rsteady_ok snil))))))))) (by kernel_rfl) Try.func34 (by kernel_rfl) (by kernel_rfl) (fun args rows caps res h ho => ?_)
  change rtoler_go args rows caps = some res at h
  unfold rtoler_go at h
  split at h
  · simp only [Option.some.injEq] at h
    subst h
    rename_i q0_ q1_ q2_ q7_ q3_ q4_ q5_ q6_
    obtain ⟨p0, _⟩ := ho
    exact EX.of (rtoler_tree q0_ q1_ q2_ q3_ q4_ q5_ q6_ q7_) (rtoler_holds q0_ q1_ q2_ q3_ q4_ q5_ q6_ q7_ p0)
  · cases h
def tolerates_res (T : Int) (M : Int) (s : Int) (m : List (List Int)) (j : List Int) (d : List Int) (u : List Int) (e : Int) : CRes := ⟨[wfI .i64 T, wfI .i64 M, wfI .i64 s, wfR [.int .i64, .int .i64] m, wfL .i64 j, wfL .i64 d, wfL .i64 u, wfI .i64 e, lenB m, lenB j, lenB d, lenB u], .one (.cel (.bool (true))), []⟩
def tolerates_go : List TV → List RowA → List (List CV) → Option CRes := fun args rows caps =>
  match args, rows, caps with
  | [.agg [.int .i64 T, .int .i64 M], .agg [.int .i64 s, .row 0], .agg [.row 1, .row 2, .row 3], .cel (.int .i64 e)], [.recs [.int .i64, .int .i64] m, .ints .i64 j, .ints .i64 d, .ints .i64 u], [] => some (tolerates_res T M s m j d u e)
  | _, _, _ => none
def tolerates_e : Ent := ⟨8, [.recs [.int .i64, .int .i64] [], .ints .i64 [], .ints .i64 [], .ints .i64 []], tolerates_go⟩
set_option maxRecDepth 100000 in
theorem tolerates_tree (T : Int) (M : Int) (s : Int) (m : List (List Int)) (j : List Int) (d : List Int) (u : List Int) (e : Int) : ((cnd (decide ((((List.length m) : Nat) : Int) ≤ (9223372036854775807 : Int)))
  (cnd ((!((decide ((((List.length m) : Nat) : Int) ≤ (60 : Int))) && (fewB s m e))) == Bool.false)
    (cnd ((!((decide ((((List.length m) : Nat) : Int) ≤ (60 : Int))) && (fewB s m e))) || (!(((decide ((((List.length j) : Nat) : Int) ≤ (400 : Int))) && (decide ((((List.length d) : Nat) : Int) ≤ (400 : Int)))) && (decide ((((List.length u) : Nat) : Int) ≤ (400 : Int))))))
      (Bool.true = Bool.true)
      (cnd (fewB s m e)
        (cnd (fewB s m e)
          ((((toB T M s m j d u e) == (toB T M s m j d u e)) && (decide ((toE T M s m j d u e) = (toE T M s m j d u e)))) = Bool.true)
          False)
        False))
    (cnd ((!((decide ((((List.length m) : Nat) : Int) ≤ (60 : Int))) && (fewB s m e))) || (!Bool.false))
      (Bool.true = Bool.true)
      (cnd (fewB s m e)
        (cnd (fewB s m e)
          ((((toB T M s m j d u e) == (toB T M s m j d u e)) && (decide ((toE T M s m j d u e) = (toE T M s m j d u e)))) = Bool.true)
          False)
        False)))
  False)) = EXD Try.prog (inlOf Try.prog [awake_e, few_e, toler_e, rtoler_e] [(33, Try.f33)] []) Try.f8 [.agg [.int .i64 T, .int .i64 M], .agg [.int .i64 s, .row 0], .agg [.row 1, .row 2, .row 3], .cel (.int .i64 e)] [.recs [.int .i64, .int .i64] m, .ints .i64 j, .ints .i64 d, .ints .i64 u] [] (tolerates_res T M s m j d u e) := by kernel_rfl
theorem tolerates_holds (T : Int) (M : Int) (s : Int) (m : List (List Int)) (j : List Int) (d : List Int) (u : List Int) (e : Int) (p0 : (wfI .i64 T) = true) (p1 : (wfI .i64 M) = true) (p2 : (wfI .i64 s) = true) (p3 : (wfR [.int .i64, .int .i64] m) = true) (p4 : (wfL .i64 j) = true) (p5 : (wfL .i64 d) = true) (p6 : (wfL .i64 u) = true) (p7 : (wfI .i64 e) = true) (p8 : (lenB m) = true) (p9 : (lenB j) = true) (p10 : (lenB d) = true) (p11 : (lenB u) = true) : (cnd (decide ((((List.length m) : Nat) : Int) ≤ (9223372036854775807 : Int)))
  (cnd ((!((decide ((((List.length m) : Nat) : Int) ≤ (60 : Int))) && (fewB s m e))) == Bool.false)
    (cnd ((!((decide ((((List.length m) : Nat) : Int) ≤ (60 : Int))) && (fewB s m e))) || (!(((decide ((((List.length j) : Nat) : Int) ≤ (400 : Int))) && (decide ((((List.length d) : Nat) : Int) ≤ (400 : Int)))) && (decide ((((List.length u) : Nat) : Int) ≤ (400 : Int))))))
      (Bool.true = Bool.true)
      (cnd (fewB s m e)
        (cnd (fewB s m e)
          ((((toB T M s m j d u e) == (toB T M s m j d u e)) && (decide ((toE T M s m j d u e) = (toE T M s m j d u e)))) = Bool.true)
          False)
        False))
    (cnd ((!((decide ((((List.length m) : Nat) : Int) ≤ (60 : Int))) && (fewB s m e))) || (!Bool.false))
      (Bool.true = Bool.true)
      (cnd (fewB s m e)
        (cnd (fewB s m e)
          ((((toB T M s m j d u e) == (toB T M s m j d u e)) && (decide ((toE T M s m j d u e) = (toE T M s m j d u e)))) = Bool.true)
          False)
        False)))
  False) := by
  have hl := lenB_iff.1 p8
  rw [decide_eq_true (show (m.length : Int) ≤ 9223372036854775807 by omega)]
  cases hf : fewB s m e with
  | false => rw [Bool.and_false]; simp [cnd]
  | true =>
    simp only [cnd, decide_true, beq_self_eq_true, Bool.and_self]
    repeat' (first | trivial | rfl | (refine cnd_i (fun h => ?_) (fun h => ?_)))
set_option maxHeartbeats 2000000 in
theorem tolerates_ok : SoundEnt Try.prog tolerates_e := by
  refine ent_of_ex (Γ := (inlOf Try.prog [awake_e, few_e, toler_e, rtoler_e] [(33, Try.f33)] [])) (inlOf_sound (scons awake_ok (scons few_ok (scons toler_ok (scons rtoler_ok snil)))) (by kernel_rfl) ⟨⟨Try.func33, by kernel_rfl, by kernel_rfl⟩, trivial⟩ spnil) (by kernel_rfl) Try.func8 (by kernel_rfl) (by kernel_rfl) (fun args rows caps res h ho => ?_)
  change tolerates_go args rows caps = some res at h
  unfold tolerates_go at h
  split at h
  · simp only [Option.some.injEq] at h
    subst h
    rename_i q0_ q1_ q2_ q7_ q3_ q4_ q5_ q6_
    obtain ⟨p0, p1, p2, p3, p4, p5, p6, p7, p8, p9, p10, p11, _⟩ := ho
    exact EX.of (tolerates_tree q0_ q1_ q2_ q3_ q4_ q5_ q6_ q7_) (tolerates_holds q0_ q1_ q2_ q3_ q4_ q5_ q6_ q7_ p0 p1 p2 p3 p4 p5 p6 p7 p8 p9 p10 p11)
  · cases h
end Go.Proofs.Ythfliohfkhnpiaa

