/- Noise: the program's tolerance. -/
import Derived.Test.YthfliohfkhnpiaaJ8
import Derived.Test.YthfliohfkhnpiaaSi
import Derived.Test.YthfliohfkhnpiaaFb
namespace Go.Proofs.Ythfliohfkhnpiaa
set_option linter.unusedVariables false
set_option linter.unusedSimpArgs false
open Go.RowKit

def mvd (j : List Int) (i : Int) : Int := if j.length = 0 then 0 else j.getD (i % j.length).toNat 0
def lngB (j d u : List Int) : Bool := decide (1000 < j.length) || decide (1000 < d.length) || decide (1000 < u.length)
def isJ (x : Int) : Bool := decide (-1099511627776 ≤ x) && decide (x ≤ 1099511627776)
theorem isJ_iff {x : Int} : isJ x = true ↔ -1099511627776 ≤ x ∧ x ≤ 1099511627776 := by simp [isJ]
def moved_res (j : List Int) (d : List Int) (u : List Int) (i : Int) : CRes := ⟨[decide (0 ≤ i)], .one (.cel (.int .i64 (mvd j i))), []⟩
def moved_go : List TV → List RowA → List (List CV) → Option CRes := fun args rows caps =>
  match args, rows, caps with
  | [.agg [.row 0, .row 1, .row 2], .cel (.int .i64 i)], [.ints .i64 j, .ints .i64 d, .ints .i64 u], [] => some (moved_res j d u i)
  | _, _, _ => none
def moved_e : Ent := ⟨50, [.ints .i64 [], .ints .i64 [], .ints .i64 []], moved_go⟩
set_option maxRecDepth 100000 in
theorem moved_tree (j : List Int) (d : List Int) (u : List Int) (i : Int) : ((cnd (decide ((((List.length j) : Nat) : Int) = (0 : Int)))
  ((0 : Int) = (mvd j i))
  (cnd (decide ((((List.length j) : Nat) : Int) ≠ (0 : Int)))
    (cnd (decide ((0 : Int) ≤ (Int.tmod i (((List.length j) : Nat) : Int))))
      (cnd (decide ((Int.tmod i (((List.length j) : Nat) : Int)) < (((List.length j) : Nat) : Int)))
        ((List.getD j (Int.toNat (Int.tmod i (((List.length j) : Nat) : Int))) (0 : Int)) = (mvd j i))
        False)
      False)
    False))) = EXD Try.prog (conOf []) Try.f50 [.agg [.row 0, .row 1, .row 2], .cel (.int .i64 i)] [.ints .i64 j, .ints .i64 d, .ints .i64 u] [] (moved_res j d u i) := by kernel_rfl
theorem moved_holds (j : List Int) (d : List Int) (u : List Int) (i : Int) (p0 : (decide (0 ≤ i)) = true) : (cnd (decide ((((List.length j) : Nat) : Int) = (0 : Int)))
  ((0 : Int) = (mvd j i))
  (cnd (decide ((((List.length j) : Nat) : Int) ≠ (0 : Int)))
    (cnd (decide ((0 : Int) ≤ (Int.tmod i (((List.length j) : Nat) : Int))))
      (cnd (decide ((Int.tmod i (((List.length j) : Nat) : Int)) < (((List.length j) : Nat) : Int)))
        ((List.getD j (Int.toNat (Int.tmod i (((List.length j) : Nat) : Int))) (0 : Int)) = (mvd j i))
        False)
      False)
    False)) := by
  unfold mvd
  by_cases h : j.length = 0
  · rw [decide_eq_true (show ((j.length : Nat) : Int) = 0 by omega), if_pos h]
    rfl
  · simp only [decide_eq_true_eq] at p0
    have h0 := Int.emod_nonneg i (show ((j.length : Nat) : Int) ≠ 0 by omega)
    have h1 := Int.emod_lt_of_pos i (show 0 < ((j.length : Nat) : Int) by omega)
    rw [decide_eq_false (show ¬ ((j.length : Nat) : Int) = 0 by omega), if_neg h, tmod_pos p0, decide_eq_true (show ((j.length : Nat) : Int) ≠ 0 by omega), decide_eq_true h0, decide_eq_true h1]
    rfl
set_option maxHeartbeats 2000000 in
theorem moved_ok : SoundEnt Try.prog moved_e := by
  refine ent_of_ex (Γ := (conOf [])) (conOf_sound snil) (by kernel_rfl) Try.func50 (by kernel_rfl) (by kernel_rfl) (fun args rows caps res h ho => ?_)
  change moved_go args rows caps = some res at h
  unfold moved_go at h
  split at h
  · simp only [Option.some.injEq] at h
    subst h
    rename_i q3_ q0_ q1_ q2_
    obtain ⟨p0, _⟩ := ho
    exact EX.of (moved_tree q0_ q1_ q2_ q3_) (moved_holds q0_ q1_ q2_ q3_ p0)
  · cases h
def long_res (j : List Int) (d : List Int) (u : List Int) : CRes := ⟨[], .one (.cel (.bool (lngB j d u))), []⟩
def long_go : List TV → List RowA → List (List CV) → Option CRes := fun args rows caps =>
  match args, rows, caps with
  | [.agg [.row 0, .row 1, .row 2]], [.ints .i64 j, .ints .i64 d, .ints .i64 u], [] => some (long_res j d u)
  | _, _, _ => none
def long_e : Ent := ⟨40, [.ints .i64 [], .ints .i64 [], .ints .i64 []], long_go⟩
set_option maxRecDepth 100000 in
theorem long_tree (j : List Int) (d : List Int) (u : List Int) : (((decide ((1000 : Int) < (gmax (gmax (((List.length j) : Nat) : Int) (((List.length d) : Nat) : Int)) (((List.length u) : Nat) : Int)))) = (lngB j d u))) = EXD Try.prog (conOf []) Try.f40 [.agg [.row 0, .row 1, .row 2]] [.ints .i64 j, .ints .i64 d, .ints .i64 u] [] (long_res j d u) := by kernel_rfl
theorem long_holds (j : List Int) (d : List Int) (u : List Int)  : ((decide ((1000 : Int) < (gmax (gmax (((List.length j) : Nat) : Int) (((List.length d) : Nat) : Int)) (((List.length u) : Nat) : Int)))) = (lngB j d u)) := by
  unfold lngB gmax
  rw [Bool.eq_iff_iff]
  simp only [decide_eq_true_eq, Bool.or_eq_true]
  split <;> split <;> omega
set_option maxHeartbeats 2000000 in
theorem long_ok : SoundEnt Try.prog long_e := by
  refine ent_of_ex (Γ := (conOf [])) (conOf_sound snil) (by kernel_rfl) Try.func40 (by kernel_rfl) (by kernel_rfl) (fun args rows caps res h ho => ?_)
  change long_go args rows caps = some res at h
  unfold long_go at h
  split at h
  · simp only [Option.some.injEq] at h
    subst h
    rename_i q0_ q1_ q2_
    skip
    exact EX.of (long_tree q0_ q1_ q2_) (long_holds q0_ q1_ q2_)
  · cases h
def shak1_res (x : Int) : CRes := ⟨[], .one (.cel (.bool (!isJ x))), []⟩
def shak1_go : List TV → List RowA → List (List CV) → Option CRes := fun args rows caps =>
  match args, rows, caps with
  | [.cel (.int .i64 x)], [], [] => some (shak1_res x)
  | _, _, _ => none
def shak1_e : Ent := ⟨93, [], shak1_go⟩
set_option maxRecDepth 100000 in
theorem shak1_tree (x : Int) : ((((decide (x < (-(1099511627776 : Int)))) || (decide ((1099511627776 : Int) < x))) = (!(isJ x)))) = EXD Try.prog (conOf []) Try.f93 [.cel (.int .i64 x)] [] [] (shak1_res x) := by kernel_rfl
theorem shak1_holds (x : Int)  : (((decide (x < (-(1099511627776 : Int)))) || (decide ((1099511627776 : Int) < x))) = (!(isJ x))) := by
  unfold isJ
  rw [Bool.eq_iff_iff]
  simp only [Bool.or_eq_true, decide_eq_true_eq, Bool.not_eq_true', Bool.and_eq_false_iff, decide_eq_false_iff_not]
  omega
set_option maxHeartbeats 2000000 in
theorem shak1_ok : SoundEnt Try.prog shak1_e := by
  refine ent_of_ex (Γ := (conOf [])) (conOf_sound snil) (by kernel_rfl) Try.func93 (by kernel_rfl) (by kernel_rfl) (fun args rows caps res h ho => ?_)
  change shak1_go args rows caps = some res at h
  unfold shak1_go at h
  split at h
  · simp only [Option.some.injEq] at h
    subst h
    rename_i q0_
    skip
    exact EX.of (shak1_tree q0_) (shak1_holds q0_)
  · cases h
def tol1_res (x : Int) : CRes := ⟨[], .one (.cel (.bool (!isT x))), []⟩
def tol1_go : List TV → List RowA → List (List CV) → Option CRes := fun args rows caps =>
  match args, rows, caps with
  | [.cel (.int .i64 x)], [], [] => some (tol1_res x)
  | _, _, _ => none
def tol1_e : Ent := ⟨43, [], tol1_go⟩
set_option maxRecDepth 100000 in
theorem tol1_tree (x : Int) : (((!(isT x)) = (!(isT x)))) = EXD Try.prog (conOf [stime_e]) Try.f43 [.cel (.int .i64 x)] [] [] (tol1_res x) := by kernel_rfl
theorem tol1_holds (x : Int)  : ((!(isT x)) = (!(isT x))) := by
  rfl
set_option maxHeartbeats 2000000 in
theorem tol1_ok : SoundEnt Try.prog tol1_e := by
  refine ent_of_ex (Γ := (conOf [stime_e])) (conOf_sound (scons stime_ok snil)) (by kernel_rfl) Try.func43 (by kernel_rfl) (by kernel_rfl) (fun args rows caps res h ho => ?_)
  change tol1_go args rows caps = some res at h
  unfold tol1_go at h
  split at h
  · simp only [Option.some.injEq] at h
    subst h
    rename_i q0_
    skip
    exact EX.of (tol1_tree q0_) (tol1_holds q0_)
  · cases h
def shak1_ifn_res (l : List Int) : CRes := ⟨[decide ((l.length : Int) ≤ 1000000)], .one (.cel (.int .i64 (fb (fun x => !isJ x) l))), []⟩
def shak1_ifn_go : List TV → List RowA → List (List CV) → Option CRes := fun args rows caps =>
  match args, rows, caps with
  | [.cel (.row 0), .cel (.fn 93)], [.ints .i64 l], [] => some (shak1_ifn_res l)
  | _, _, _ => none
def shak1_ifn_e : Ent := ⟨94, [.ints .i64 []], shak1_ifn_go⟩
def shak1_ifn_L1_F (l : List Int) (i : Int) : St := ⟨19, [], [(8, (.one (.cel (.int .i64 i)))), (7, (.one (.cel (.int .i64 (((List.length l) : Nat) : Int))))), (4, (.one (.cel (.int .i64 (0 : Int))))), (0, (.one (.cel (.row 0)))), (1, (.one (.cel (.fn 93))))], [], [⟨(.ints .i64 l), none⟩], 0⟩
def shak1_ifn_L1_I (l : List Int) (i : Int) : Prop := (0 ≤ i ∧ i ≤ l.length ∧ (l.length : Int) ≤ 1000000) ∧ (fb (fun x => !isJ x) l = (if fb (fun x => !isJ x) (l.drop i.toNat) = -1 then -1 else fb (fun x => !isJ x) (l.drop i.toNat) + i))
def shak1_ifn_L1_m (l : List Int) (i : Int) : Nat := (l.length - i).toNat
def shak1_ifn_L1_N (l : List Int) (i' : Int) (st_ : St) : Prop := getI st_ 8 fun i => shak1_ifn_L1_I l i ∧ shak1_ifn_L1_m l i < shak1_ifn_L1_m l i' ∧ SubA st_ (shak1_ifn_L1_F l i)
def shak1_ifn_L1_E (l : List Int) (st_ : St) : Prop := getI st_ 8 fun i => shak1_ifn_L1_I l i ∧ SubA st_ (shak1_ifn_L1_F l i)
def shak1_ifn_L1_S1 (l : List Int) : St := ⟨19, [], [(8, (.one (.cel (.int .i64 (0 : Int))))), (7, (.one (.cel (.int .i64 (((List.length l) : Nat) : Int))))), (6, (.one (.cel (.row 0)))), (4, (.one (.cel (.int .i64 (0 : Int))))), (0, (.one (.cel (.row 0)))), (1, (.one (.cel (.fn 93))))], [], [⟨(.ints .i64 l), none⟩], 0⟩
def shak1_ifn_L1_T (l : List Int) (i : Int) : Prop := (cnd (decide (i < (((List.length l) : Nat) : Int)))
  (cnd (decide ((0 : Int) ≤ i))
    (cnd (decide (i < (((List.length l) : Nat) : Int)))
      (cnd (!(isJ (List.getD l (Int.toNat i) (0 : Int))))
        (i = (fb (fun x => (!(isJ x))) l))
        ((shak1_ifn_L1_I l (Go.IntKind.wrap Go.IntKind.i64 (i + (1 : Int)))) ∧ (((shak1_ifn_L1_m l (Go.IntKind.wrap Go.IntKind.i64 (i + (1 : Int)))) < (shak1_ifn_L1_m l i)) ∧ (((Go.IntKind.wrap Go.IntKind.i64 (i + (1 : Int))) = (Go.IntKind.wrap Go.IntKind.i64 (i + (1 : Int)))) ∧ (((((List.length l) : Nat) : Int) = (((List.length l) : Nat) : Int)) ∧ (((0 : Int) = (0 : Int)) ∧ (True ∧ (True ∧ ((l = l) ∧ True)))))))))
      False)
    False)
  ((-(1 : Int)) = (fb (fun x => (!(isJ x))) l)))
set_option maxRecDepth 100000 in
theorem shak1_ifn_L1_tree (l : List Int) (i : Int) : shak1_ifn_L1_T l i = ex Try.prog (conOf [shak1_e]) (subC (bodyOf Try.f94) [1, 0, 1, 0, 0]) (nextE (shak1_ifn_L1_N l i) (kont Try.prog (conOf [shak1_e]) (bodyOf Try.f94) [1, 0, 1, 0] (retPost Try.prog Try.f94 1 (shak1_ifn_res l)))) (shak1_ifn_L1_F l i) := by kernel_rfl
set_option maxRecDepth 100000 in
theorem shak1_ifn_L1_round (l : List Int) (i : Int) (p0 : (decide ((l.length : Int) ≤ 1000000)) = true) (hI_L1 : shak1_ifn_L1_I l i) : shak1_ifn_L1_T l i := by
  obtain ⟨⟨a1, a2, a3⟩, a4⟩ := hI_L1
  unfold shak1_ifn_L1_T
  by_cases hi : i < l.length
  · have hd := drop_consG (d := 0) (l := l) (i := i) a1 hi
    obtain ⟨b1, b2, b3⟩ := fb_bd (fun x => !isJ x) (l.drop (i.toNat + 1))
    have e1 : (i + 1).toNat = i.toNat + 1 := by omega
    rw [hd] at a4
    rw [w64 (n := i + 1) (by omega) (by omega), decide_eq_true hi, decide_eq_true a1]
    have hF : ∀ i' : Int, 0 ≤ i' ∧ i' ≤ l.length ∧ (l.length : Int) ≤ 1000000 → fb (fun x => !isJ x) l = (if fb (fun x => !isJ x) (l.drop i'.toNat) = -1 then -1 else fb (fun x => !isJ x) (l.drop i'.toNat) + i') → shak1_ifn_L1_I l i' := fun i' h1 h2 => ⟨h1, h2⟩
    have hμ : shak1_ifn_L1_m l (i + 1) < shak1_ifn_L1_m l i := by unfold shak1_ifn_L1_m; omega
    generalize l.getD i.toNat 0 = x at *
    rw [fb_cons] at a4
    cases hx : (!isJ x) with
    | true =>
      rw [hx] at a4
      rw [if_pos rfl, if_neg (by decide), Int.zero_add] at a4
      exact a4.symm
    | false =>
      rw [hx] at a4
      refine ⟨hF _ ⟨by omega, by omega, a3⟩ ?_, hμ, by simp⟩
      rw [e1]
      simp only [Bool.false_eq_true, if_false] at a4
      generalize fb (fun x => !isJ x) (l.drop (i.toNat + 1)) = y at *
      by_cases hy : y = -1
      · rw [if_pos hy] at a4 ⊢
        simpa using a4
      · rw [if_neg hy] at a4 ⊢
        rw [if_neg (by omega)] at a4
        omega
  · rw [decide_eq_false hi]
    have e : l.drop i.toNat = [] := List.drop_eq_nil_of_le (by omega)
    rw [e] at a4
    simp [fb] at a4
    exact a4.symm
set_option maxRecDepth 100000 in
theorem shak1_ifn_L1_entry1 (l : List Int) : (((shak1_ifn_L1_I l (0 : Int)) ∧ (((0 : Int) = (0 : Int)) ∧ (((((List.length l) : Nat) : Int) = (((List.length l) : Nat) : Int)) ∧ (((0 : Int) = (0 : Int)) ∧ (True ∧ (True ∧ ((l = l) ∧ True)))))))) = shak1_ifn_L1_E l (shak1_ifn_L1_S1 l) := by kernel_rfl
theorem shak1_ifn_L1_1 (l : List Int) (p0 : (decide ((l.length : Int) ≤ 1000000)) = true) (h : ((shak1_ifn_L1_I l (0 : Int)) ∧ (((0 : Int) = (0 : Int)) ∧ (((((List.length l) : Nat) : Int) = (((List.length l) : Nat) : Int)) ∧ (((0 : Int) = (0 : Int)) ∧ (True ∧ (True ∧ ((l = l) ∧ True)))))))) : LoopP (ex Try.prog (conOf [shak1_e]) (subC (bodyOf Try.f94) [1, 0, 1, 0, 0])) (kont Try.prog (conOf [shak1_e]) (bodyOf Try.f94) [1, 0, 1, 0] (retPost Try.prog Try.f94 1 (shak1_ifn_res l))) (shak1_ifn_L1_S1 l) := by
  have hE : shak1_ifn_L1_E l (shak1_ifn_L1_S1 l) := Eq.mp (shak1_ifn_L1_entry1 l) h
  unfold shak1_ifn_L1_E at hE
  obtain ⟨i, hE⟩ := getI_of hE
  refine loop_of (α := (Int)) (fun xx_ => shak1_ifn_L1_F l xx_) (fun xx_ => shak1_ifn_L1_I l xx_) (fun xx_ => shak1_ifn_L1_m l xx_) (fun xx_ => shak1_ifn_L1_N l xx_) (fun xx_ => shak1_ifn_L1_T l xx_) (fun xx_ s_ h => ?_) ⟨i, hE⟩ (fun xx_ => shak1_ifn_L1_tree l xx_) (fun xx_ hI => shak1_ifn_L1_round l xx_ p0 hI)
  unfold shak1_ifn_L1_N at h
  obtain ⟨i, h⟩ := getI_of h
  exact ⟨i, h⟩
set_option maxRecDepth 100000 in
theorem shak1_ifn_tree (l : List Int) : ((LoopP (ex Try.prog (conOf [shak1_e]) (subC (bodyOf Try.f94) [1, 0, 1, 0, 0])) (kont Try.prog (conOf [shak1_e]) (bodyOf Try.f94) [1, 0, 1, 0] (retPost Try.prog Try.f94 1 (shak1_ifn_res l))) (shak1_ifn_L1_S1 l))) = EXD Try.prog (conOf [shak1_e]) Try.f94 [.cel (.row 0), .cel (.fn 93)] [.ints .i64 l] [] (shak1_ifn_res l) := by kernel_rfl
theorem shak1_ifn_holds (l : List Int) (p0 : (decide ((l.length : Int) ≤ 1000000)) = true) : (LoopP (ex Try.prog (conOf [shak1_e]) (subC (bodyOf Try.f94) [1, 0, 1, 0, 0])) (kont Try.prog (conOf [shak1_e]) (bodyOf Try.f94) [1, 0, 1, 0] (retPost Try.prog Try.f94 1 (shak1_ifn_res l))) (shak1_ifn_L1_S1 l)) := by
  have q0 := p0
  simp only [decide_eq_true_eq] at p0
  have b := (fb_bd (fun x => !isJ x) l).1
  refine shak1_ifn_L1_1 l q0  ⟨⟨⟨by omega, by omega, by omega⟩, ?_⟩, by simp⟩
  simp
set_option maxHeartbeats 2000000 in
theorem shak1_ifn_ok : SoundEnt Try.prog shak1_ifn_e := by
  refine ent_of_ex (Γ := (conOf [shak1_e])) (conOf_sound (scons shak1_ok snil)) (by kernel_rfl) Try.func94 (by kernel_rfl) (by kernel_rfl) (fun args rows caps res h ho => ?_)
  change shak1_ifn_go args rows caps = some res at h
  unfold shak1_ifn_go at h
  split at h
  · simp only [Option.some.injEq] at h
    subst h
    rename_i q0_
    obtain ⟨p0, _⟩ := ho
    exact EX.of (shak1_ifn_tree q0_) (shak1_ifn_holds q0_ p0)
  · cases h
def shak1_cfn_res (l : List Int) : CRes := ⟨[decide ((l.length : Int) ≤ 1000000)], .one (.cel (.bool (l.any (fun x => !isJ x)))), []⟩
def shak1_cfn_go : List TV → List RowA → List (List CV) → Option CRes := fun args rows caps =>
  match args, rows, caps with
  | [.cel (.row 0), .cel (.fn 93)], [.ints .i64 l], [] => some (shak1_cfn_res l)
  | _, _, _ => none
def shak1_cfn_e : Ent := ⟨42, [.ints .i64 []], shak1_cfn_go⟩
set_option maxRecDepth 100000 in
theorem shak1_cfn_tree (l : List Int) : ((cnd (decide ((((List.length l) : Nat) : Int) ≤ (1000000 : Int)))
  ((decide ((0 : Int) ≤ (fb (fun x => (!(isJ x))) l))) = (List.any l (fun x => (!(isJ x)))))
  False)) = EXD Try.prog (conOf [shak1_ifn_e]) Try.f42 [.cel (.row 0), .cel (.fn 93)] [.ints .i64 l] [] (shak1_cfn_res l) := by kernel_rfl
theorem shak1_cfn_holds (l : List Int) (p0 : (decide ((l.length : Int) ≤ 1000000)) = true) : (cnd (decide ((((List.length l) : Nat) : Int) ≤ (1000000 : Int)))
  ((decide ((0 : Int) ≤ (fb (fun x => (!(isJ x))) l))) = (List.any l (fun x => (!(isJ x)))))
  False) := by
  obtain ⟨b1, b2, b3⟩ := fb_bd (fun x => !isJ x) l
  rw [p0]
  show decide (0 ≤ fb (fun x => !isJ x) l) = l.any (fun x => !isJ x)
  cases h : l.any (fun x => !isJ x) with
  | false => rw [b3.2 h]; rfl
  | true =>
    have : ¬ fb (fun x => !isJ x) l = -1 := fun e => by rw [b3.1 e] at h; cases h
    rw [decide_eq_true_eq]
    omega
set_option maxHeartbeats 2000000 in
theorem shak1_cfn_ok : SoundEnt Try.prog shak1_cfn_e := by
  refine ent_of_ex (Γ := (conOf [shak1_ifn_e])) (conOf_sound (scons shak1_ifn_ok snil)) (by kernel_rfl) Try.func42 (by kernel_rfl) (by kernel_rfl) (fun args rows caps res h ho => ?_)
  change shak1_cfn_go args rows caps = some res at h
  unfold shak1_cfn_go at h
  split at h
  · simp only [Option.some.injEq] at h
    subst h
    rename_i q0_
    obtain ⟨p0, _⟩ := ho
    exact EX.of (shak1_cfn_tree q0_) (shak1_cfn_holds q0_ p0)
  · cases h
def tol1_ifn_res (l : List Int) : CRes := ⟨[decide ((l.length : Int) ≤ 1000000)], .one (.cel (.int .i64 (fb (fun x => !isT x) l))), []⟩
def tol1_ifn_go : List TV → List RowA → List (List CV) → Option CRes := fun args rows caps =>
  match args, rows, caps with
  | [.cel (.row 0), .cel (.fn 43)], [.ints .i64 l], [] => some (tol1_ifn_res l)
  | _, _, _ => none
def tol1_ifn_e : Ent := ⟨94, [.ints .i64 []], tol1_ifn_go⟩
def tol1_ifn_L1_F (l : List Int) (i : Int) : St := ⟨19, [], [(8, (.one (.cel (.int .i64 i)))), (7, (.one (.cel (.int .i64 (((List.length l) : Nat) : Int))))), (4, (.one (.cel (.int .i64 (0 : Int))))), (0, (.one (.cel (.row 0)))), (1, (.one (.cel (.fn 43))))], [], [⟨(.ints .i64 l), none⟩], 0⟩
def tol1_ifn_L1_I (l : List Int) (i : Int) : Prop := (0 ≤ i ∧ i ≤ l.length ∧ (l.length : Int) ≤ 1000000) ∧ (fb (fun x => !isT x) l = (if fb (fun x => !isT x) (l.drop i.toNat) = -1 then -1 else fb (fun x => !isT x) (l.drop i.toNat) + i))
def tol1_ifn_L1_m (l : List Int) (i : Int) : Nat := (l.length - i).toNat
def tol1_ifn_L1_N (l : List Int) (i' : Int) (st_ : St) : Prop := getI st_ 8 fun i => tol1_ifn_L1_I l i ∧ tol1_ifn_L1_m l i < tol1_ifn_L1_m l i' ∧ SubA st_ (tol1_ifn_L1_F l i)
def tol1_ifn_L1_E (l : List Int) (st_ : St) : Prop := getI st_ 8 fun i => tol1_ifn_L1_I l i ∧ SubA st_ (tol1_ifn_L1_F l i)
def tol1_ifn_L1_S1 (l : List Int) : St := ⟨19, [], [(8, (.one (.cel (.int .i64 (0 : Int))))), (7, (.one (.cel (.int .i64 (((List.length l) : Nat) : Int))))), (6, (.one (.cel (.row 0)))), (4, (.one (.cel (.int .i64 (0 : Int))))), (0, (.one (.cel (.row 0)))), (1, (.one (.cel (.fn 43))))], [], [⟨(.ints .i64 l), none⟩], 0⟩
def tol1_ifn_L1_T (l : List Int) (i : Int) : Prop := (cnd (decide (i < (((List.length l) : Nat) : Int)))
  (cnd (decide ((0 : Int) ≤ i))
    (cnd (decide (i < (((List.length l) : Nat) : Int)))
      (cnd (!(isT (List.getD l (Int.toNat i) (0 : Int))))
        (i = (fb (fun x => (!(isT x))) l))
        ((tol1_ifn_L1_I l (Go.IntKind.wrap Go.IntKind.i64 (i + (1 : Int)))) ∧ (((tol1_ifn_L1_m l (Go.IntKind.wrap Go.IntKind.i64 (i + (1 : Int)))) < (tol1_ifn_L1_m l i)) ∧ (((Go.IntKind.wrap Go.IntKind.i64 (i + (1 : Int))) = (Go.IntKind.wrap Go.IntKind.i64 (i + (1 : Int)))) ∧ (((((List.length l) : Nat) : Int) = (((List.length l) : Nat) : Int)) ∧ (((0 : Int) = (0 : Int)) ∧ (True ∧ (True ∧ ((l = l) ∧ True)))))))))
      False)
    False)
  ((-(1 : Int)) = (fb (fun x => (!(isT x))) l)))
set_option maxRecDepth 100000 in
theorem tol1_ifn_L1_tree (l : List Int) (i : Int) : tol1_ifn_L1_T l i = ex Try.prog (conOf [tol1_e]) (subC (bodyOf Try.f94) [1, 0, 1, 0, 0]) (nextE (tol1_ifn_L1_N l i) (kont Try.prog (conOf [tol1_e]) (bodyOf Try.f94) [1, 0, 1, 0] (retPost Try.prog Try.f94 1 (tol1_ifn_res l)))) (tol1_ifn_L1_F l i) := by kernel_rfl
set_option maxRecDepth 100000 in
theorem tol1_ifn_L1_round (l : List Int) (i : Int) (p0 : (decide ((l.length : Int) ≤ 1000000)) = true) (hI_L1 : tol1_ifn_L1_I l i) : tol1_ifn_L1_T l i := by
  obtain ⟨⟨a1, a2, a3⟩, a4⟩ := hI_L1
  unfold tol1_ifn_L1_T
  by_cases hi : i < l.length
  · have hd := drop_consG (d := 0) (l := l) (i := i) a1 hi
    obtain ⟨b1, b2, b3⟩ := fb_bd (fun x => !isT x) (l.drop (i.toNat + 1))
    have e1 : (i + 1).toNat = i.toNat + 1 := by omega
    rw [hd] at a4
    rw [w64 (n := i + 1) (by omega) (by omega), decide_eq_true hi, decide_eq_true a1]
    have hF : ∀ i' : Int, 0 ≤ i' ∧ i' ≤ l.length ∧ (l.length : Int) ≤ 1000000 → fb (fun x => !isT x) l = (if fb (fun x => !isT x) (l.drop i'.toNat) = -1 then -1 else fb (fun x => !isT x) (l.drop i'.toNat) + i') → tol1_ifn_L1_I l i' := fun i' h1 h2 => ⟨h1, h2⟩
    have hμ : tol1_ifn_L1_m l (i + 1) < tol1_ifn_L1_m l i := by unfold tol1_ifn_L1_m; omega
    generalize l.getD i.toNat 0 = x at *
    rw [fb_cons] at a4
    cases hx : (!isT x) with
    | true =>
      rw [hx] at a4
      rw [if_pos rfl, if_neg (by decide), Int.zero_add] at a4
      exact a4.symm
    | false =>
      rw [hx] at a4
      refine ⟨hF _ ⟨by omega, by omega, a3⟩ ?_, hμ, by simp⟩
      rw [e1]
      simp only [Bool.false_eq_true, if_false] at a4
      generalize fb (fun x => !isT x) (l.drop (i.toNat + 1)) = y at *
      by_cases hy : y = -1
      · rw [if_pos hy] at a4 ⊢
        simpa using a4
      · rw [if_neg hy] at a4 ⊢
        rw [if_neg (by omega)] at a4
        omega
  · rw [decide_eq_false hi]
    have e : l.drop i.toNat = [] := List.drop_eq_nil_of_le (by omega)
    rw [e] at a4
    simp [fb] at a4
    exact a4.symm
set_option maxRecDepth 100000 in
theorem tol1_ifn_L1_entry1 (l : List Int) : (((tol1_ifn_L1_I l (0 : Int)) ∧ (((0 : Int) = (0 : Int)) ∧ (((((List.length l) : Nat) : Int) = (((List.length l) : Nat) : Int)) ∧ (((0 : Int) = (0 : Int)) ∧ (True ∧ (True ∧ ((l = l) ∧ True)))))))) = tol1_ifn_L1_E l (tol1_ifn_L1_S1 l) := by kernel_rfl
theorem tol1_ifn_L1_1 (l : List Int) (p0 : (decide ((l.length : Int) ≤ 1000000)) = true) (h : ((tol1_ifn_L1_I l (0 : Int)) ∧ (((0 : Int) = (0 : Int)) ∧ (((((List.length l) : Nat) : Int) = (((List.length l) : Nat) : Int)) ∧ (((0 : Int) = (0 : Int)) ∧ (True ∧ (True ∧ ((l = l) ∧ True)))))))) : LoopP (ex Try.prog (conOf [tol1_e]) (subC (bodyOf Try.f94) [1, 0, 1, 0, 0])) (kont Try.prog (conOf [tol1_e]) (bodyOf Try.f94) [1, 0, 1, 0] (retPost Try.prog Try.f94 1 (tol1_ifn_res l))) (tol1_ifn_L1_S1 l) := by
  have hE : tol1_ifn_L1_E l (tol1_ifn_L1_S1 l) := Eq.mp (tol1_ifn_L1_entry1 l) h
  unfold tol1_ifn_L1_E at hE
  obtain ⟨i, hE⟩ := getI_of hE
  refine loop_of (α := (Int)) (fun xx_ => tol1_ifn_L1_F l xx_) (fun xx_ => tol1_ifn_L1_I l xx_) (fun xx_ => tol1_ifn_L1_m l xx_) (fun xx_ => tol1_ifn_L1_N l xx_) (fun xx_ => tol1_ifn_L1_T l xx_) (fun xx_ s_ h => ?_) ⟨i, hE⟩ (fun xx_ => tol1_ifn_L1_tree l xx_) (fun xx_ hI => tol1_ifn_L1_round l xx_ p0 hI)
  unfold tol1_ifn_L1_N at h
  obtain ⟨i, h⟩ := getI_of h
  exact ⟨i, h⟩
set_option maxRecDepth 100000 in
theorem tol1_ifn_tree (l : List Int) : ((LoopP (ex Try.prog (conOf [tol1_e]) (subC (bodyOf Try.f94) [1, 0, 1, 0, 0])) (kont Try.prog (conOf [tol1_e]) (bodyOf Try.f94) [1, 0, 1, 0] (retPost Try.prog Try.f94 1 (tol1_ifn_res l))) (tol1_ifn_L1_S1 l))) = EXD Try.prog (conOf [tol1_e]) Try.f94 [.cel (.row 0), .cel (.fn 43)] [.ints .i64 l] [] (tol1_ifn_res l) := by kernel_rfl
theorem tol1_ifn_holds (l : List Int) (p0 : (decide ((l.length : Int) ≤ 1000000)) = true) : (LoopP (ex Try.prog (conOf [tol1_e]) (subC (bodyOf Try.f94) [1, 0, 1, 0, 0])) (kont Try.prog (conOf [tol1_e]) (bodyOf Try.f94) [1, 0, 1, 0] (retPost Try.prog Try.f94 1 (tol1_ifn_res l))) (tol1_ifn_L1_S1 l)) := by
  have q0 := p0
  simp only [decide_eq_true_eq] at p0
  have b := (fb_bd (fun x => !isT x) l).1
  refine tol1_ifn_L1_1 l q0  ⟨⟨⟨by omega, by omega, by omega⟩, ?_⟩, by simp⟩
  simp
set_option maxHeartbeats 2000000 in
theorem tol1_ifn_ok : SoundEnt Try.prog tol1_ifn_e := by
  refine ent_of_ex (Γ := (conOf [tol1_e])) (conOf_sound (scons tol1_ok snil)) (by kernel_rfl) Try.func94 (by kernel_rfl) (by kernel_rfl) (fun args rows caps res h ho => ?_)
  change tol1_ifn_go args rows caps = some res at h
  unfold tol1_ifn_go at h
  split at h
  · simp only [Option.some.injEq] at h
    subst h
    rename_i q0_
    obtain ⟨p0, _⟩ := ho
    exact EX.of (tol1_ifn_tree q0_) (tol1_ifn_holds q0_ p0)
  · cases h
def tol1_cfn_res (l : List Int) : CRes := ⟨[decide ((l.length : Int) ≤ 1000000)], .one (.cel (.bool (l.any (fun x => !isT x)))), []⟩
def tol1_cfn_go : List TV → List RowA → List (List CV) → Option CRes := fun args rows caps =>
  match args, rows, caps with
  | [.cel (.row 0), .cel (.fn 43)], [.ints .i64 l], [] => some (tol1_cfn_res l)
  | _, _, _ => none
def tol1_cfn_e : Ent := ⟨42, [.ints .i64 []], tol1_cfn_go⟩
set_option maxRecDepth 100000 in
theorem tol1_cfn_tree (l : List Int) : ((cnd (decide ((((List.length l) : Nat) : Int) ≤ (1000000 : Int)))
  ((decide ((0 : Int) ≤ (fb (fun x => (!(isT x))) l))) = (List.any l (fun x => (!(isT x)))))
  False)) = EXD Try.prog (conOf [tol1_ifn_e]) Try.f42 [.cel (.row 0), .cel (.fn 43)] [.ints .i64 l] [] (tol1_cfn_res l) := by kernel_rfl
theorem tol1_cfn_holds (l : List Int) (p0 : (decide ((l.length : Int) ≤ 1000000)) = true) : (cnd (decide ((((List.length l) : Nat) : Int) ≤ (1000000 : Int)))
  ((decide ((0 : Int) ≤ (fb (fun x => (!(isT x))) l))) = (List.any l (fun x => (!(isT x)))))
  False) := by
  obtain ⟨b1, b2, b3⟩ := fb_bd (fun x => !isT x) l
  rw [p0]
  show decide (0 ≤ fb (fun x => !isT x) l) = l.any (fun x => !isT x)
  cases h : l.any (fun x => !isT x) with
  | false => rw [b3.2 h]; rfl
  | true =>
    have : ¬ fb (fun x => !isT x) l = -1 := fun e => by rw [b3.1 e] at h; cases h
    rw [decide_eq_true_eq]
    omega
set_option maxHeartbeats 2000000 in
theorem tol1_cfn_ok : SoundEnt Try.prog tol1_cfn_e := by
  refine ent_of_ex (Γ := (conOf [tol1_ifn_e])) (conOf_sound (scons tol1_ifn_ok snil)) (by kernel_rfl) Try.func42 (by kernel_rfl) (by kernel_rfl) (fun args rows caps res h ho => ?_)
  change tol1_cfn_go args rows caps = some res at h
  unfold tol1_cfn_go at h
  split at h
  · simp only [Option.some.injEq] at h
    subst h
    rename_i q0_
    obtain ⟨p0, _⟩ := ho
    exact EX.of (tol1_cfn_tree q0_) (tol1_cfn_holds q0_ p0)
  · cases h
def shaky_res (j : List Int) (d : List Int) (u : List Int) : CRes := ⟨[decide ((j.length : Int) ≤ 1000000)], .one (.cel (.bool (j.any (fun x => !isJ x)))), []⟩
def shaky_go : List TV → List RowA → List (List CV) → Option CRes := fun args rows caps =>
  match args, rows, caps with
  | [.agg [.row 0, .row 1, .row 2]], [.ints .i64 j, .ints .i64 d, .ints .i64 u], [] => some (shaky_res j d u)
  | _, _, _ => none
def shaky_e : Ent := ⟨41, [.ints .i64 [], .ints .i64 [], .ints .i64 []], shaky_go⟩
set_option maxRecDepth 100000 in
theorem shaky_tree (j : List Int) (d : List Int) (u : List Int) : ((cnd (decide ((((List.length j) : Nat) : Int) ≤ (1000000 : Int)))
  ((List.any j (fun x => (!(isJ x)))) = (List.any j (fun x => (!(isJ x)))))
  False)) = EXD Try.prog (conOf [shak1_cfn_e]) Try.f41 [.agg [.row 0, .row 1, .row 2]] [.ints .i64 j, .ints .i64 d, .ints .i64 u] [] (shaky_res j d u) := by kernel_rfl
theorem shaky_holds (j : List Int) (d : List Int) (u : List Int) (p0 : (decide ((j.length : Int) ≤ 1000000)) = true) : (cnd (decide ((((List.length j) : Nat) : Int) ≤ (1000000 : Int)))
  ((List.any j (fun x => (!(isJ x)))) = (List.any j (fun x => (!(isJ x)))))
  False) := by
  rw [p0]
  rfl
set_option maxHeartbeats 2000000 in
theorem shaky_ok : SoundEnt Try.prog shaky_e := by
  refine ent_of_ex (Γ := (conOf [shak1_cfn_e])) (conOf_sound (scons shak1_cfn_ok snil)) (by kernel_rfl) Try.func41 (by kernel_rfl) (by kernel_rfl) (fun args rows caps res h ho => ?_)
  change shaky_go args rows caps = some res at h
  unfold shaky_go at h
  split at h
  · simp only [Option.some.injEq] at h
    subst h
    rename_i q0_ q1_ q2_
    obtain ⟨p0, _⟩ := ho
    exact EX.of (shaky_tree q0_ q1_ q2_) (shaky_holds q0_ q1_ q2_ p0)
  · cases h
def spsL (T M : Int) (P : List Int) : List Int := (dif P).map fun x => x / spc T M
theorem spsL_len {T M : Int} {P : List Int} : (spsL T M P).length = P.length - 1 := by unfold spsL; rw [List.length_map, dif_len]
theorem spsL_get {T M : Int} {P : List Int} {j : Nat} (h : j + 1 < P.length) : (spsL T M P).getD j 0 = (P.getD (j + 1) 0 - P.getD j 0) / spc T M := by
  have h2 : j < (dif P).length := by rw [dif_len]; omega
  unfold spsL
  rw [← dif_get P j h, List.getD_eq_getElem?_getD, List.getElem?_map, List.getD_eq_getElem?_getD, List.getElem?_eq_getElem h2]
  rfl
def allB (p : Nat → Bool) : Nat → Bool
  | 0 => true
  | n + 1 => allB p n && p n
theorem allB_iff {p : Nat → Bool} : ∀ {n : Nat}, allB p n = true ↔ ∀ i, i < n → p i = true
  | 0 => by simp [allB]
  | n + 1 => by
    rw [allB, Bool.and_eq_true, allB_iff (n := n)]
    constructor
    · rintro ⟨h1, h2⟩ i hi
      by_cases h : i = n
      · rw [h]; exact h2
      · exact h1 i (by omega)
    · intro h
      exact ⟨fun i hi => h i (by omega), h n (by omega)⟩
theorem allB_no {p : Nat → Bool} {n i : Nat} (h : i < n) (h2 : p i = false) : allB p n = false := by
  cases ha : allB p n with
  | false => rfl
  | true => rw [allB_iff.1 ha i h] at h2; cases h2
def lidx (p : Nat → Bool) : Nat → Int
  | 0 => -1
  | n + 1 => if p n then (n : Int) else lidx p n
theorem lidx_bd (p : Nat → Bool) : ∀ n : Nat, -1 ≤ lidx p n ∧ lidx p n < n
  | 0 => by simp [lidx]
  | n + 1 => by
    have := lidx_bd p n
    rw [lidx]
    split <;> omega
def aab (x : Int) : Int := if 0 ≤ x then x else -x
def calmP (l k j : List Int) (i : Nat) : Bool := decide (64 * aab (mvd j i) * k.getD i 0 ≤ l.getD (i + 1) 0 - l.getD i 0) && decide (64 * aab (mvd j (i + 1)) * k.getD i 0 ≤ l.getD (i + 1) 0 - l.getD i 0)
def calmB (l k j : List Int) : Bool := allB (calmP l k j) k.length
def sparI (l j : List Int) (s : Int) : Int := lidx (fun x => decide (l.getD x 0 + mvd j x < s)) l.length
def sparP (l k j : List Int) (s : Int) : Bool := decide (1 ≤ sparI l j s) && decide (sparI l j s < k.length) && decide (8 * (s - l.getD (sparI l j s).toNat 0 - mvd j (sparI l j s)) * k.getD (sparI l j s).toNat 0 < l.getD ((sparI l j s).toNat + 1) 0 - l.getD (sparI l j s).toNat 0)
/-- The speeds at some times. -/
def nts : Int → List (List Int) → Int → Int → List Int
  | t, [], _, b => if t < b then [0] else []
  | t, r :: l, a, b => if t < b ∧ a < t + r0 r then r1 r :: nts (t + r0 r) l a b else nts (t + r0 r) l a b
def lst : Int → List Int → Int
  | m, [] => m
  | m, x :: L => lst (min m x) L
def grt : Int → List Int → Int
  | m, [] => m
  | m, x :: L => grt (max m x) L
def lsI (l : List (List Int)) (a b : Int) : Int := lst 4611686018427387904 (nts 0 l a b)
def grI (l : List (List Int)) (a b : Int) : Int := grt 0 (nts 0 l a b)
def stdP (l : List Int) (m : List (List Int)) (i : Nat) : Bool := decide (i = 0) || (!decide (lsI m (max 0 (l.getD (i - 1) 0 - 1)) (l.getD (i + 1) 0) = 0) && decide (16 * grI m (max 0 (l.getD (i - 1) 0 - 1)) (l.getD (i + 1) 0) ≤ 17 * lsI m (max 0 (l.getD (i - 1) 0 - 1)) (l.getD (i + 1) 0)))
def stdB (l : List Int) (m : List (List Int)) : Bool := allB (stdP l m) (l.length - 1)
theorem gm_abs {x : Int} (h : isJ x = true) : gmax x (IntKind.i64.wrap (0 - x)) = aab x := by
  have := isJ_iff.1 h
  rw [w64 (n := 0 - x) (by omega) (by omega)]
  unfold gmax aab
  split <;> split <;> omega
theorem aab_bd {x : Int} (h : isJ x = true) : 0 ≤ aab x ∧ aab x ≤ 1099511627776 := by
  have := isJ_iff.1 h
  unfold aab
  split <;> omega
theorem mvd_J {j : List Int} (h : j.all isJ = true) (i : Int) : isJ (mvd j i) = true := by
  unfold mvd
  split
  · rfl
  · rename_i h0
    have h1 := Int.emod_nonneg i (show ((j.length : Nat) : Int) ≠ 0 by omega)
    have h2 := Int.emod_lt_of_pos i (show 0 < ((j.length : Nat) : Int) by omega)
    exact all_get h (by omega)
theorem k_bd {k : List Int} (h : k.all (fun x => decide (0 ≤ x) && decide (x ≤ 120)) = true) {j : Nat} (hj : j < k.length) : 0 ≤ k.getD j 0 ∧ k.getD j 0 ≤ 120 := by
  have := all_get h hj
  simpa using this
theorem nts_ne : ∀ (l : List (List Int)) (t a b : Int), t ≤ a → a < b → nts t l a b ≠ []
  | [], t, a, b, h1, h2 => by rw [nts, if_pos (by omega)]; simp
  | r :: l, t, a, b, h1, h2 => by
    rw [nts]
    split
    · simp
    · exact nts_ne l _ a b (by omega) h2
theorem nts_bd : ∀ (l : List (List Int)) (t a b : Int), vL t l = true → ∀ x ∈ nts t l a b, 0 ≤ x ∧ x ≤ 524288
  | [], t, a, b, _, x, hx => by
    rw [nts] at hx
    split at hx
    · simp only [List.mem_singleton] at hx; omega
    · simp at hx
  | r :: l, t, a, b, hv, x, hx => by
    obtain ⟨⟨a1, a2, a3, a4⟩, a5, a6⟩ := vL_cons hv
    rw [nts] at hx
    split at hx
    · rcases List.mem_cons.1 hx with h | h
      · omega
      · exact nts_bd l _ a b a6 x h
    · exact nts_bd l _ a b a6 x hx
theorem lst_le : ∀ (L : List Int) (m : Int), lst m L ≤ m
  | [], m => by simp [lst]
  | x :: L, m => by have := lst_le L (min m x); rw [lst]; omega
theorem lst_bd : ∀ (L : List Int) (m : Int), 0 ≤ m → (∀ x ∈ L, 0 ≤ x ∧ x ≤ 524288) → 0 ≤ lst m L ∧ (L ≠ [] → lst m L ≤ 524288)
  | [], m, h, _ => ⟨h, fun h => absurd rfl h⟩
  | x :: L, m, h, hx => by
    have h1 := hx x (by simp)
    obtain ⟨i1, i2⟩ := lst_bd L (min m x) (by omega) (fun y hy => hx y (by simp [hy]))
    have := lst_le L (min m x)
    rw [lst]
    exact ⟨i1, fun _ => by omega⟩
theorem grt_bd : ∀ (L : List Int) (m : Int), 0 ≤ m → m ≤ 524288 → (∀ x ∈ L, 0 ≤ x ∧ x ≤ 524288) → 0 ≤ grt m L ∧ grt m L ≤ 524288
  | [], m, h, h', _ => ⟨h, h'⟩
  | x :: L, m, h, h', hx => by
    have h1 := hx x (by simp)
    rw [grt]
    exact grt_bd L (max m x) (by omega) (by omega) (fun y hy => hx y (by simp [hy]))
theorem lg_bd {s : Int} {m : List (List Int)} {a b : Int} (h : mValid s m = true) (h0 : 0 ≤ a) (h1 : a < b) : (0 ≤ lsI m a b ∧ lsI m a b ≤ 524288) ∧ 0 ≤ grI m a b ∧ grI m a b ≤ 524288 := by
  obtain ⟨v1, v2, v3⟩ := mV_iff.1 h
  have hb := nts_bd m 0 a b v3
  have hn := nts_ne m 0 a b h0 h1
  obtain ⟨l1, l2⟩ := lst_bd _ 4611686018427387904 (by omega) hb
  exact ⟨⟨l1, l2 hn⟩, grt_bd _ 0 (by omega) (by omega) hb⟩
def spaces_res (T : Int) (M : Int) (P : List Int) : CRes := ⟨[wValid T M, vE P], .one (.cel (.row 1)), [.ints .i64 (spsL T M P)]⟩
def spaces_go : List TV → List RowA → List (List CV) → Option CRes := fun args rows caps =>
  match args, rows, caps with
  | [.agg [.int .i64 T, .int .i64 M], .cel (.row 0)], [.ints .i64 P], [] => some (spaces_res T M P)
  | _, _, _ => none
def spaces_e : Ent := ⟨45, [.ints .i64 []], spaces_go⟩
def spaces_L1_F (T : Int) (M : Int) (P : List Int) (i : Int) (o : List Int) : St := ⟨30, [], [(6, (.one (.cel (.int .i64 i)))), (5, (.one (.cel (.row 1)))), (4, (.one (.cel .nilS))), (2, (.one (.cel (.ptr 0 0)))), (1, (.one (.cel (.row 0))))], [[(.int .i64 T), (.int .i64 M)]], [⟨(.ints .i64 P), none⟩, ⟨(.ints .i64 o), some 3⟩], 0⟩
def spaces_L1_I (T : Int) (M : Int) (P : List Int) (i : Int) (o : List Int) : Prop := (1 ≤ i ∧ i ≤ P.length + 1) ∧ (o = (spsL T M P).take (i - 1).toNat)
def spaces_L1_m (T : Int) (M : Int) (P : List Int) (i : Int) (o : List Int) : Nat := (P.length - i).toNat
def spaces_L1_N (T : Int) (M : Int) (P : List Int) (i' : Int) (o' : List Int) (st_ : St) : Prop := getI st_ 6 fun i => getR st_ 5 fun o => spaces_L1_I T M P i o ∧ spaces_L1_m T M P i o < spaces_L1_m T M P i' o' ∧ SubA st_ (spaces_L1_F T M P i o)
def spaces_L1_E (T : Int) (M : Int) (P : List Int) (st_ : St) : Prop := getI st_ 6 fun i => getR st_ 5 fun o => spaces_L1_I T M P i o ∧ SubA st_ (spaces_L1_F T M P i o)
def spaces_L1_S1 (T : Int) (M : Int) (P : List Int) : St := ⟨30, [], [(6, (.one (.cel (.int .i64 (1 : Int))))), (5, (.one (.cel .nilS))), (4, (.one (.cel .nilS))), (2, (.one (.cel (.ptr 0 0)))), (0, (.one (.agg [(.int .i64 T), (.int .i64 M)]))), (1, (.one (.cel (.row 0))))], [[(.int .i64 T), (.int .i64 M)]], [⟨(.ints .i64 P), none⟩], 0⟩
def spaces_L1_T (T : Int) (M : Int) (P : List Int) (i : Int) (o : List Int) : Prop := (cnd (decide (i < (((List.length P) : Nat) : Int)))
  (cnd (decide ((0 : Int) ≤ i))
    (cnd (decide (i < (((List.length P) : Nat) : Int)))
      (cnd (decide ((0 : Int) ≤ (Go.IntKind.wrap Go.IntKind.i64 (i - (1 : Int)))))
        (cnd (decide ((Go.IntKind.wrap Go.IntKind.i64 (i - (1 : Int))) < (((List.length P) : Nat) : Int)))
          (cnd (decide ((spc T M) ≠ (0 : Int)))
            (cnd (decide ((List.length (o ++ [(Go.IntKind.wrap Go.IntKind.i64 (Int.tdiv (Go.IntKind.wrap Go.IntKind.i64 ((List.getD P (Int.toNat i) (0 : Int)) - (List.getD P (Int.toNat (Go.IntKind.wrap Go.IntKind.i64 (i - (1 : Int)))) (0 : Int)))) (spc T M)))])) ≤ 4294967296))
              ((spaces_L1_I T M P (Go.IntKind.wrap Go.IntKind.i64 (i + (1 : Int))) (o ++ [(Go.IntKind.wrap Go.IntKind.i64 (Int.tdiv (Go.IntKind.wrap Go.IntKind.i64 ((List.getD P (Int.toNat i) (0 : Int)) - (List.getD P (Int.toNat (Go.IntKind.wrap Go.IntKind.i64 (i - (1 : Int)))) (0 : Int)))) (spc T M)))])) ∧ (((spaces_L1_m T M P (Go.IntKind.wrap Go.IntKind.i64 (i + (1 : Int))) (o ++ [(Go.IntKind.wrap Go.IntKind.i64 (Int.tdiv (Go.IntKind.wrap Go.IntKind.i64 ((List.getD P (Int.toNat i) (0 : Int)) - (List.getD P (Int.toNat (Go.IntKind.wrap Go.IntKind.i64 (i - (1 : Int)))) (0 : Int)))) (spc T M)))])) < (spaces_L1_m T M P i o)) ∧ (((Go.IntKind.wrap Go.IntKind.i64 (i + (1 : Int))) = (Go.IntKind.wrap Go.IntKind.i64 (i + (1 : Int)))) ∧ (True ∧ (True ∧ (True ∧ (True ∧ (((T = T) ∧ (M = M)) ∧ ((P = P) ∧ (((o ++ [(Go.IntKind.wrap Go.IntKind.i64 (Int.tdiv (Go.IntKind.wrap Go.IntKind.i64 ((List.getD P (Int.toNat i) (0 : Int)) - (List.getD P (Int.toNat (Go.IntKind.wrap Go.IntKind.i64 (i - (1 : Int)))) (0 : Int)))) (spc T M)))]) = (o ++ [(Go.IntKind.wrap Go.IntKind.i64 (Int.tdiv (Go.IntKind.wrap Go.IntKind.i64 ((List.getD P (Int.toNat i) (0 : Int)) - (List.getD P (Int.toNat (Go.IntKind.wrap Go.IntKind.i64 (i - (1 : Int)))) (0 : Int)))) (spc T M)))])) ∧ True))))))))))
              False)
            False)
          False)
        False)
      False)
    False)
  (True ∧ ((o = (spsL T M P)) ∧ True)))
set_option maxRecDepth 100000 in
theorem spaces_L1_tree (T : Int) (M : Int) (P : List Int) (i : Int) (o : List Int) : spaces_L1_T T M P i o = ex Try.prog (conOf [wspace_e]) (subC (bodyOf Try.f45) [1, 1, 0, 1, 0, 0]) (nextE (spaces_L1_N T M P i o) (kont Try.prog (conOf [wspace_e]) (bodyOf Try.f45) [1, 1, 0, 1, 0] (retPost Try.prog Try.f45 1 (spaces_res T M P)))) (spaces_L1_F T M P i o) := by kernel_rfl
set_option maxRecDepth 100000 in
theorem spaces_L1_round (T : Int) (M : Int) (P : List Int) (i : Int) (o : List Int) (p0 : (wValid T M) = true) (p1 : (vE P) = true) (hI_L1 : spaces_L1_I T M P i o) : spaces_L1_T T M P i o := by
  obtain ⟨⟨a1, a2⟩, a3⟩ := hI_L1
  obtain ⟨v1, v2, v3⟩ := vE_iff.1 p1
  obtain ⟨b0, b1, b2, b3⟩ := spc_bd p0
  have hF : ∀ (i' : Int) (o' : List Int), 1 ≤ i' ∧ i' ≤ P.length + 1 → o' = (spsL T M P).take (i' - 1).toNat → spaces_L1_I T M P i' o' := fun i' o' h1 h2 => ⟨h1, h2⟩
  have hμ : ∀ o', i < P.length → spaces_L1_m T M P (i + 1) o' < spaces_L1_m T M P i o := fun o' h => by unfold spaces_L1_m; omega
  have hol : o.length ≤ (i - 1).toNat := by rw [a3, List.length_take]; omega
  unfold spaces_L1_T
  by_cases hi : i < P.length
  · have t0 := isT_iff.1 (all_get v2 (j := i.toNat) (by omega))
    have t1 := isT_iff.1 (all_get v2 (j := (i - 1).toNat) (by omega))
    have hlt := incr_get (j := (i - 1).toNat) v3 (by omega)
    have hg := spsL_get (T := T) (M := M) (P := P) (j := (i - 1).toNat) (by omega)
    rw [show (i - 1).toNat + 1 = i.toNat by omega] at hlt hg
    rw [decide_eq_true hi, w64 (n := i - 1) (by omega) (by omega), w64 (n := i + 1) (by omega) (by omega), decide_eq_true (show 0 ≤ i by omega), decide_eq_true (show 0 ≤ i - 1 by omega), decide_eq_true (show i - 1 < (P.length : Int) by omega), w64 (n := P.getD i.toNat 0 - P.getD (i - 1).toNat 0) (by omega) (by omega), decide_eq_true (show spc T M ≠ 0 by omega), tdiv_pos (by omega), ← hg]
    have hq := quo_pos (x := P.getD i.toNat 0 - P.getD (i - 1).toNat 0) (y := spc T M) (by omega) (by omega)
    rw [← hg] at hq
    rw [w64 (n := (spsL T M P).getD (i - 1).toNat 0) (by omega) (by omega)]
    have hlen : (o ++ [(spsL T M P).getD (i - 1).toNat 0]).length = o.length + 1 := by simp
    rw [decide_eq_true (show (o ++ [(spsL T M P).getD (i - 1).toNat 0]).length ≤ 4294967296 by omega)]
    refine ⟨hF _ _ ⟨by omega, by omega⟩ ?_, hμ _ hi, by simp⟩
    rw [show i + 1 - 1 = i - 1 + 1 by omega, take_snoc (d := 0) (by omega) (by rw [spsL_len]; omega), ← a3]
  · rw [decide_eq_false hi]
    rw [List.take_of_length_le (by rw [spsL_len]; omega)] at a3
    exact ⟨trivial, a3, trivial⟩
set_option maxRecDepth 100000 in
theorem spaces_L1_entry1 (T : Int) (M : Int) (P : List Int) : (((spaces_L1_I T M P (1 : Int) ([] : List Int)) ∧ (((1 : Int) = (1 : Int)) ∧ (True ∧ (True ∧ (True ∧ (True ∧ (((T = T) ∧ (M = M)) ∧ ((P = P) ∧ ((([] : List Int) = ([] : List Int)) ∧ True)))))))))) = spaces_L1_E T M P (spaces_L1_S1 T M P) := by kernel_rfl
theorem spaces_L1_1 (T : Int) (M : Int) (P : List Int) (p0 : (wValid T M) = true) (p1 : (vE P) = true) (h : ((spaces_L1_I T M P (1 : Int) ([] : List Int)) ∧ (((1 : Int) = (1 : Int)) ∧ (True ∧ (True ∧ (True ∧ (True ∧ (((T = T) ∧ (M = M)) ∧ ((P = P) ∧ ((([] : List Int) = ([] : List Int)) ∧ True)))))))))) : LoopP (ex Try.prog (conOf [wspace_e]) (subC (bodyOf Try.f45) [1, 1, 0, 1, 0, 0])) (kont Try.prog (conOf [wspace_e]) (bodyOf Try.f45) [1, 1, 0, 1, 0] (retPost Try.prog Try.f45 1 (spaces_res T M P))) (spaces_L1_S1 T M P) := by
  have hE : spaces_L1_E T M P (spaces_L1_S1 T M P) := Eq.mp (spaces_L1_entry1 T M P) h
  unfold spaces_L1_E at hE
  obtain ⟨i, hE⟩ := getI_of hE
  obtain ⟨o, hE⟩ := getR_of hE
  refine loop_of (α := (Int) × (List Int)) (fun xx_ => spaces_L1_F T M P xx_.1 xx_.2) (fun xx_ => spaces_L1_I T M P xx_.1 xx_.2) (fun xx_ => spaces_L1_m T M P xx_.1 xx_.2) (fun xx_ => spaces_L1_N T M P xx_.1 xx_.2) (fun xx_ => spaces_L1_T T M P xx_.1 xx_.2) (fun xx_ s_ h => ?_) ⟨⟨i, o⟩, hE⟩ (fun xx_ => spaces_L1_tree T M P xx_.1 xx_.2) (fun xx_ hI => spaces_L1_round T M P xx_.1 xx_.2 p0 p1 hI)
  unfold spaces_L1_N at h
  obtain ⟨i, h⟩ := getI_of h
  obtain ⟨o, h⟩ := getR_of h
  exact ⟨⟨i, o⟩, h⟩
set_option maxRecDepth 100000 in
theorem spaces_tree (T : Int) (M : Int) (P : List Int) : ((LoopP (ex Try.prog (conOf [wspace_e]) (subC (bodyOf Try.f45) [1, 1, 0, 1, 0, 0])) (kont Try.prog (conOf [wspace_e]) (bodyOf Try.f45) [1, 1, 0, 1, 0] (retPost Try.prog Try.f45 1 (spaces_res T M P))) (spaces_L1_S1 T M P))) = EXD Try.prog (conOf [wspace_e]) Try.f45 [.agg [.int .i64 T, .int .i64 M], .cel (.row 0)] [.ints .i64 P] [] (spaces_res T M P) := by kernel_rfl
theorem spaces_holds (T : Int) (M : Int) (P : List Int) (p0 : (wValid T M) = true) (p1 : (vE P) = true) : (LoopP (ex Try.prog (conOf [wspace_e]) (subC (bodyOf Try.f45) [1, 1, 0, 1, 0, 0])) (kont Try.prog (conOf [wspace_e]) (bodyOf Try.f45) [1, 1, 0, 1, 0] (retPost Try.prog Try.f45 1 (spaces_res T M P))) (spaces_L1_S1 T M P)) := by
  exact spaces_L1_1 T M P p0 p1 ⟨⟨⟨by omega, by omega⟩, by simp⟩, by simp⟩
set_option maxHeartbeats 2000000 in
theorem spaces_ok : SoundEnt Try.prog spaces_e := by
  refine ent_of_ex (Γ := (conOf [wspace_e])) (conOf_sound (scons wspace_ok snil)) (by kernel_rfl) Try.func45 (by kernel_rfl) (by kernel_rfl) (fun args rows caps res h ho => ?_)
  change spaces_go args rows caps = some res at h
  unfold spaces_go at h
  split at h
  · simp only [Option.some.injEq] at h
    subst h
    rename_i q0_ q1_ q2_
    obtain ⟨p0, p1, _⟩ := ho
    exact EX.of (spaces_tree q0_ q1_ q2_) (spaces_holds q0_ q1_ q2_ p0 p1)
  · cases h
def extremes_res (s : Int) (l : List (List Int)) (a : Int) (b : Int) : CRes := ⟨[mValid s l], .tup [.cel (.int .i64 (lsI l a b)), .cel (.int .i64 (grI l a b))], []⟩
def extremes_go : List TV → List RowA → List (List CV) → Option CRes := fun args rows caps =>
  match args, rows, caps with
  | [.agg [.int .i64 s, .row 0], .cel (.int .i64 a), .cel (.int .i64 b)], [.recs [.int .i64, .int .i64] l], [] => some (extremes_res s l a b)
  | _, _, _ => none
def extremes_e : Ent := ⟨95, [.recs [.int .i64, .int .i64] []], extremes_go⟩
def extremes_L1_F (s : Int) (l : List (List Int)) (a : Int) (b : Int) (i : Int) (t : Int) (x : Int) (y : Int) : St := ⟨47, [], [(16, (.one (.cel (.int .i64 i)))), (15, (.one (.cel (.int .i64 (((List.length l) : Nat) : Int))))), (14, (.one (.cel (.row 0)))), (9, (.one (.cel (.int .i64 t)))), (8, (.one (.cel (.clo 119 [1, 2])))), (7, (.one (.cel (.ptr 2 0)))), (6, (.one (.cel (.ptr 1 0)))), (1, (.one (.cel (.int .i64 a)))), (2, (.one (.cel (.int .i64 b))))], [[(.int .i64 s), (.row 0)], [(.int .i64 x)], [(.int .i64 y)]], [⟨(.recs [.int .i64, .int .i64] l), none⟩], 0⟩
def extremes_L1_I (s : Int) (l : List (List Int)) (a : Int) (b : Int) (i : Int) (t : Int) (x : Int) (y : Int) : Prop := (0 ≤ i ∧ i ≤ l.length ∧ (l.length : Int) ≤ 2000) ∧ (0 ≤ t ∧ t ≤ 1099511627776 ∧ vL t (l.drop i.toNat) = true) ∧ (lst x (nts t (l.drop i.toNat) a b) = lsI l a b) ∧ (grt y (nts t (l.drop i.toNat) a b) = grI l a b)
def extremes_L1_m (s : Int) (l : List (List Int)) (a : Int) (b : Int) (i : Int) (t : Int) (x : Int) (y : Int) : Nat := (l.length - i).toNat
def extremes_L1_N (s : Int) (l : List (List Int)) (a : Int) (b : Int) (i' : Int) (t' : Int) (x' : Int) (y' : Int) (st_ : St) : Prop := getI st_ 16 fun i => getI st_ 9 fun t => getCI st_ 1 0 fun x => getCI st_ 2 0 fun y => extremes_L1_I s l a b i t x y ∧ extremes_L1_m s l a b i t x y < extremes_L1_m s l a b i' t' x' y' ∧ SubA st_ (extremes_L1_F s l a b i t x y)
def extremes_L1_E (s : Int) (l : List (List Int)) (a : Int) (b : Int) (st_ : St) : Prop := getI st_ 16 fun i => getI st_ 9 fun t => getCI st_ 1 0 fun x => getCI st_ 2 0 fun y => extremes_L1_I s l a b i t x y ∧ SubA st_ (extremes_L1_F s l a b i t x y)
def extremes_L1_S1 (s : Int) (l : List (List Int)) (a : Int) (b : Int) : St := ⟨47, [], [(16, (.one (.cel (.int .i64 (0 : Int))))), (15, (.one (.cel (.int .i64 (((List.length l) : Nat) : Int))))), (14, (.one (.cel (.row 0)))), (13, (.one (.cel (.ptr 0 1)))), (9, (.one (.cel (.int .i64 (0 : Int))))), (8, (.one (.cel (.clo 119 [1, 2])))), (12, (.one (.cel (.clo 119 [1, 2])))), (7, (.one (.cel (.ptr 2 0)))), (6, (.one (.cel (.ptr 1 0)))), (3, (.one (.cel (.ptr 0 0)))), (0, (.one (.agg [(.int .i64 s), (.row 0)]))), (1, (.one (.cel (.int .i64 a)))), (2, (.one (.cel (.int .i64 b))))], [[(.int .i64 s), (.row 0)], [(.int .i64 (4611686018427387904 : Int))], [(.int .i64 (0 : Int))]], [⟨(.recs [.int .i64, .int .i64] l), none⟩], 0⟩
def extremes_L1_T (s : Int) (l : List (List Int)) (a : Int) (b : Int) (i : Int) (t : Int) (x : Int) (y : Int) : Prop := (cnd (decide (i < (((List.length l) : Nat) : Int)))
  (cnd (decide ((0 : Int) ≤ i))
    (cnd (decide (i < (((List.length l) : Nat) : Int)))
      (cnd ((decide (t < b)) && (decide (a < (Go.IntKind.wrap Go.IntKind.i64 (t + (List.getD (List.getD l (Int.toNat i) ([] : List Int)) 0 (0 : Int)))))))
        (((extremes_L1_I s l a b (Go.IntKind.wrap Go.IntKind.i64 (i + (1 : Int))) (Go.IntKind.wrap Go.IntKind.i64 (t + (List.getD (List.getD l (Int.toNat i) ([] : List Int)) 0 (0 : Int)))) (gmin x (List.getD (List.getD l (Int.toNat i) ([] : List Int)) (0 + 1) (0 : Int))) (gmax y (List.getD (List.getD l (Int.toNat i) ([] : List Int)) (0 + 1) (0 : Int)))) ∧ (((extremes_L1_m s l a b (Go.IntKind.wrap Go.IntKind.i64 (i + (1 : Int))) (Go.IntKind.wrap Go.IntKind.i64 (t + (List.getD (List.getD l (Int.toNat i) ([] : List Int)) 0 (0 : Int)))) (gmin x (List.getD (List.getD l (Int.toNat i) ([] : List Int)) (0 + 1) (0 : Int))) (gmax y (List.getD (List.getD l (Int.toNat i) ([] : List Int)) (0 + 1) (0 : Int)))) < (extremes_L1_m s l a b i t x y)) ∧ (((Go.IntKind.wrap Go.IntKind.i64 (i + (1 : Int))) = (Go.IntKind.wrap Go.IntKind.i64 (i + (1 : Int)))) ∧ (((((List.length l) : Nat) : Int) = (((List.length l) : Nat) : Int)) ∧ (True ∧ (((Go.IntKind.wrap Go.IntKind.i64 (t + (List.getD (List.getD l (Int.toNat i) ([] : List Int)) 0 (0 : Int)))) = (Go.IntKind.wrap Go.IntKind.i64 (t + (List.getD (List.getD l (Int.toNat i) ([] : List Int)) 0 (0 : Int))))) ∧ (True ∧ (True ∧ (True ∧ ((a = a) ∧ ((b = b) ∧ (((s = s) ∧ True) ∧ (((gmin x (List.getD (List.getD l (Int.toNat i) ([] : List Int)) (0 + 1) (0 : Int))) = (gmin x (List.getD (List.getD l (Int.toNat i) ([] : List Int)) (0 + 1) (0 : Int)))) ∧ (((gmax y (List.getD (List.getD l (Int.toNat i) ([] : List Int)) (0 + 1) (0 : Int))) = (gmax y (List.getD (List.getD l (Int.toNat i) ([] : List Int)) (0 + 1) (0 : Int)))) ∧ ((l = l) ∧ True))))))))))))))) ∧ ((extremes_L1_I s l a b (Go.IntKind.wrap Go.IntKind.i64 (i + (1 : Int))) (Go.IntKind.wrap Go.IntKind.i64 (t + (List.getD (List.getD l (Int.toNat i) ([] : List Int)) 0 (0 : Int)))) (gmin x (List.getD (List.getD l (Int.toNat i) ([] : List Int)) (0 + 1) (0 : Int))) (gmax y (List.getD (List.getD l (Int.toNat i) ([] : List Int)) (0 + 1) (0 : Int)))) ∧ (((extremes_L1_m s l a b (Go.IntKind.wrap Go.IntKind.i64 (i + (1 : Int))) (Go.IntKind.wrap Go.IntKind.i64 (t + (List.getD (List.getD l (Int.toNat i) ([] : List Int)) 0 (0 : Int)))) (gmin x (List.getD (List.getD l (Int.toNat i) ([] : List Int)) (0 + 1) (0 : Int))) (gmax y (List.getD (List.getD l (Int.toNat i) ([] : List Int)) (0 + 1) (0 : Int)))) < (extremes_L1_m s l a b i t x y)) ∧ (((Go.IntKind.wrap Go.IntKind.i64 (i + (1 : Int))) = (Go.IntKind.wrap Go.IntKind.i64 (i + (1 : Int)))) ∧ (((((List.length l) : Nat) : Int) = (((List.length l) : Nat) : Int)) ∧ (True ∧ (((Go.IntKind.wrap Go.IntKind.i64 (t + (List.getD (List.getD l (Int.toNat i) ([] : List Int)) 0 (0 : Int)))) = (Go.IntKind.wrap Go.IntKind.i64 (t + (List.getD (List.getD l (Int.toNat i) ([] : List Int)) 0 (0 : Int))))) ∧ (True ∧ (True ∧ (True ∧ ((a = a) ∧ ((b = b) ∧ (((s = s) ∧ True) ∧ (((gmin x (List.getD (List.getD l (Int.toNat i) ([] : List Int)) (0 + 1) (0 : Int))) = (gmin x (List.getD (List.getD l (Int.toNat i) ([] : List Int)) (0 + 1) (0 : Int)))) ∧ (((gmax y (List.getD (List.getD l (Int.toNat i) ([] : List Int)) (0 + 1) (0 : Int))) = (gmax y (List.getD (List.getD l (Int.toNat i) ([] : List Int)) (0 + 1) (0 : Int)))) ∧ ((l = l) ∧ True))))))))))))))))
        ((extremes_L1_I s l a b (Go.IntKind.wrap Go.IntKind.i64 (i + (1 : Int))) (Go.IntKind.wrap Go.IntKind.i64 (t + (List.getD (List.getD l (Int.toNat i) ([] : List Int)) 0 (0 : Int)))) x y) ∧ (((extremes_L1_m s l a b (Go.IntKind.wrap Go.IntKind.i64 (i + (1 : Int))) (Go.IntKind.wrap Go.IntKind.i64 (t + (List.getD (List.getD l (Int.toNat i) ([] : List Int)) 0 (0 : Int)))) x y) < (extremes_L1_m s l a b i t x y)) ∧ (((Go.IntKind.wrap Go.IntKind.i64 (i + (1 : Int))) = (Go.IntKind.wrap Go.IntKind.i64 (i + (1 : Int)))) ∧ (((((List.length l) : Nat) : Int) = (((List.length l) : Nat) : Int)) ∧ (True ∧ (((Go.IntKind.wrap Go.IntKind.i64 (t + (List.getD (List.getD l (Int.toNat i) ([] : List Int)) 0 (0 : Int)))) = (Go.IntKind.wrap Go.IntKind.i64 (t + (List.getD (List.getD l (Int.toNat i) ([] : List Int)) 0 (0 : Int))))) ∧ (True ∧ (True ∧ (True ∧ ((a = a) ∧ ((b = b) ∧ (((s = s) ∧ True) ∧ ((x = x) ∧ ((y = y) ∧ ((l = l) ∧ True))))))))))))))))
      False)
    False)
  (cnd (decide (t < b))
    (((((gmin x (0 : Int)) = (lsI l a b)) ∧ ((gmax y (0 : Int)) = (grI l a b))) ∧ (((gmin x (0 : Int)) = (lsI l a b)) ∧ ((gmax y (0 : Int)) = (grI l a b)))) ∧ ((((gmin x (0 : Int)) = (lsI l a b)) ∧ ((gmax y (0 : Int)) = (grI l a b))) ∧ (((gmin x (0 : Int)) = (lsI l a b)) ∧ ((gmax y (0 : Int)) = (grI l a b)))))
    (((x = (lsI l a b)) ∧ (y = (grI l a b))) ∧ ((x = (lsI l a b)) ∧ (y = (grI l a b))))))
set_option maxRecDepth 100000 in
theorem extremes_L1_tree (s : Int) (l : List (List Int)) (a : Int) (b : Int) (i : Int) (t : Int) (x : Int) (y : Int) : extremes_L1_T s l a b i t x y = ex Try.prog (inlOf Try.prog [] [(119, Try.f119)] []) (subC (bodyOf Try.f95) [1, 1, 1, 1, 0, 1, 0, 0]) (nextE (extremes_L1_N s l a b i t x y) (kont Try.prog (inlOf Try.prog [] [(119, Try.f119)] []) (bodyOf Try.f95) [1, 1, 1, 1, 0, 1, 0] (retPost Try.prog Try.f95 1 (extremes_res s l a b)))) (extremes_L1_F s l a b i t x y) := by kernel_rfl
set_option maxRecDepth 100000 in
theorem extremes_L1_round (s : Int) (l : List (List Int)) (a : Int) (b : Int) (i : Int) (t : Int) (x : Int) (y : Int) (p0 : (mValid s l) = true) (hI_L1 : extremes_L1_I s l a b i t x y) : extremes_L1_T s l a b i t x y := by
  obtain ⟨⟨a1, a2, a3⟩, ⟨t0, t1, hv⟩, hx, hy⟩ := hI_L1
  have hF : ∀ (i' t' x' y' : Int), 0 ≤ i' ∧ i' ≤ l.length ∧ (l.length : Int) ≤ 2000 → 0 ≤ t' ∧ t' ≤ 1099511627776 ∧ vL t' (l.drop i'.toNat) = true → lst x' (nts t' (l.drop i'.toNat) a b) = lsI l a b → grt y' (nts t' (l.drop i'.toNat) a b) = grI l a b → extremes_L1_I s l a b i' t' x' y' := fun _ _ _ _ h1 h2 h3 h4 => ⟨h1, h2, h3, h4⟩
  have hμ : ∀ t' x' y', i < l.length → extremes_L1_m s l a b (i + 1) t' x' y' < extremes_L1_m s l a b i t x y := fun _ _ _ h => by unfold extremes_L1_m; omega
  unfold extremes_L1_T
  by_cases hi : i < l.length
  · rw [drop_consR a1 hi] at hv hx hy
    obtain ⟨⟨r1', r2, r3, r4⟩, r5, r6⟩ := vL_cons hv
    have e1 : (i + 1).toNat = i.toNat + 1 := by omega
    rw [decide_eq_true hi, decide_eq_true a1]
    change cnd (decide (t < b) && decide (a < IntKind.i64.wrap (t + r0 (l.getD i.toNat [])))) _ (extremes_L1_I s l a b (IntKind.i64.wrap (i + 1)) (IntKind.i64.wrap (t + r0 (l.getD i.toNat []))) x y ∧ _)
    rw [w64 (n := i + 1) (by omega) (by omega)]
    have hk : ∀ (b : Bool) (p : Prop) (q : Prop) , (b = true → p) → (b = false → q) → cnd b p q := fun b p q h1 h2 => cnd_i h1 h2
    refine cnd_i (fun hc => ?_) (fun hc => ?_)
    · simp only [Bool.and_eq_true, decide_eq_true_eq] at hc
      rw [w64 (n := t + r0 (l.getD i.toNat [])) (by omega) (by omega)] at hc
      rw [nts, if_pos hc, lst] at hx
      rw [nts, if_pos hc, grt] at hy
      have hq := hF (i + 1) (t + r0 (l.getD i.toNat [])) (gmin x (r1 (l.getD i.toNat []))) (gmax y (r1 (l.getD i.toNat []))) ⟨by omega, by omega, a3⟩ ⟨by omega, r5, by rw [e1]; exact r6⟩ (by rw [e1, ← hx]; congr 1; unfold gmin; omega) (by rw [e1, ← hy]; congr 1; unfold gmax; omega)
      rw [← w64 (n := t + r0 (l.getD i.toNat [])) (by omega) (by omega)] at hq
      have hm := hμ (IntKind.i64.wrap (t + r0 (l.getD i.toNat []))) (gmin x (r1 (l.getD i.toNat []))) (gmax y (r1 (l.getD i.toNat []))) hi
      repeat' (first | exact hq | exact hm | refine And.intro ?_ ?_ | rfl | trivial)
    · have hcc : ¬ (t < b ∧ a < t + r0 (l.getD i.toNat [])) := by
        intro h
        rw [w64 (n := t + r0 (l.getD i.toNat [])) (by omega) (by omega), decide_eq_true h.1, decide_eq_true h.2] at hc
        cases hc
      rw [nts, if_neg hcc] at hx hy
      rw [w64 (n := t + r0 (l.getD i.toNat [])) (by omega) (by omega)]
      exact ⟨hF _ _ _ _ ⟨by omega, by omega, a3⟩ ⟨by omega, r5, by rw [e1]; exact r6⟩ (by rw [e1]; exact hx) (by rw [e1]; exact hy), hμ _ _ _ hi, by simp⟩
  · rw [decide_eq_false hi]
    rw [List.drop_eq_nil_of_le (by omega), nts] at hx hy
    by_cases hb : t < b
    · rw [if_pos hb] at hx hy
      simp only [lst, grt] at hx hy
      have g1 : gmin x 0 = lsI l a b := by rw [← hx]; unfold gmin; omega
      have g2 : gmax y 0 = grI l a b := by rw [← hy]; unfold gmax; omega
      rw [decide_eq_true hb, g1, g2]
      simp [cnd]
    · rw [if_neg hb] at hx hy
      simp only [lst, grt] at hx hy
      rw [decide_eq_false hb, hx, hy]
      simp [cnd]
set_option maxRecDepth 100000 in
theorem extremes_L1_entry1 (s : Int) (l : List (List Int)) (a : Int) (b : Int) : (((extremes_L1_I s l a b (0 : Int) (0 : Int) (4611686018427387904 : Int) (0 : Int)) ∧ (((0 : Int) = (0 : Int)) ∧ (((((List.length l) : Nat) : Int) = (((List.length l) : Nat) : Int)) ∧ (True ∧ (((0 : Int) = (0 : Int)) ∧ (True ∧ (True ∧ (True ∧ ((a = a) ∧ ((b = b) ∧ (((s = s) ∧ True) ∧ (((4611686018427387904 : Int) = (4611686018427387904 : Int)) ∧ (((0 : Int) = (0 : Int)) ∧ ((l = l) ∧ True))))))))))))))) = extremes_L1_E s l a b (extremes_L1_S1 s l a b) := by kernel_rfl
theorem extremes_L1_1 (s : Int) (l : List (List Int)) (a : Int) (b : Int) (p0 : (mValid s l) = true) (h : ((extremes_L1_I s l a b (0 : Int) (0 : Int) (4611686018427387904 : Int) (0 : Int)) ∧ (((0 : Int) = (0 : Int)) ∧ (((((List.length l) : Nat) : Int) = (((List.length l) : Nat) : Int)) ∧ (True ∧ (((0 : Int) = (0 : Int)) ∧ (True ∧ (True ∧ (True ∧ ((a = a) ∧ ((b = b) ∧ (((s = s) ∧ True) ∧ (((4611686018427387904 : Int) = (4611686018427387904 : Int)) ∧ (((0 : Int) = (0 : Int)) ∧ ((l = l) ∧ True))))))))))))))) : LoopP (ex Try.prog (inlOf Try.prog [] [(119, Try.f119)] []) (subC (bodyOf Try.f95) [1, 1, 1, 1, 0, 1, 0, 0])) (kont Try.prog (inlOf Try.prog [] [(119, Try.f119)] []) (bodyOf Try.f95) [1, 1, 1, 1, 0, 1, 0] (retPost Try.prog Try.f95 1 (extremes_res s l a b))) (extremes_L1_S1 s l a b) := by
  have hE : extremes_L1_E s l a b (extremes_L1_S1 s l a b) := Eq.mp (extremes_L1_entry1 s l a b) h
  unfold extremes_L1_E at hE
  obtain ⟨i, hE⟩ := getI_of hE
  obtain ⟨t, hE⟩ := getI_of hE
  obtain ⟨x, hE⟩ := getCI_of hE
  obtain ⟨y, hE⟩ := getCI_of hE
  refine loop_of (α := (Int) × (Int) × (Int) × (Int)) (fun xx_ => extremes_L1_F s l a b xx_.1 xx_.2.1 xx_.2.2.1 xx_.2.2.2) (fun xx_ => extremes_L1_I s l a b xx_.1 xx_.2.1 xx_.2.2.1 xx_.2.2.2) (fun xx_ => extremes_L1_m s l a b xx_.1 xx_.2.1 xx_.2.2.1 xx_.2.2.2) (fun xx_ => extremes_L1_N s l a b xx_.1 xx_.2.1 xx_.2.2.1 xx_.2.2.2) (fun xx_ => extremes_L1_T s l a b xx_.1 xx_.2.1 xx_.2.2.1 xx_.2.2.2) (fun xx_ s_ h => ?_) ⟨⟨i, t, x, y⟩, hE⟩ (fun xx_ => extremes_L1_tree s l a b xx_.1 xx_.2.1 xx_.2.2.1 xx_.2.2.2) (fun xx_ hI => extremes_L1_round s l a b xx_.1 xx_.2.1 xx_.2.2.1 xx_.2.2.2 p0 hI)
  unfold extremes_L1_N at h
  obtain ⟨i, h⟩ := getI_of h
  obtain ⟨t, h⟩ := getI_of h
  obtain ⟨x, h⟩ := getCI_of h
  obtain ⟨y, h⟩ := getCI_of h
  exact ⟨⟨i, t, x, y⟩, h⟩
set_option maxRecDepth 100000 in
theorem extremes_tree (s : Int) (l : List (List Int)) (a : Int) (b : Int) : ((LoopP (ex Try.prog (inlOf Try.prog [] [(119, Try.f119)] []) (subC (bodyOf Try.f95) [1, 1, 1, 1, 0, 1, 0, 0])) (kont Try.prog (inlOf Try.prog [] [(119, Try.f119)] []) (bodyOf Try.f95) [1, 1, 1, 1, 0, 1, 0] (retPost Try.prog Try.f95 1 (extremes_res s l a b))) (extremes_L1_S1 s l a b))) = EXD Try.prog (inlOf Try.prog [] [(119, Try.f119)] []) Try.f95 [.agg [.int .i64 s, .row 0], .cel (.int .i64 a), .cel (.int .i64 b)] [.recs [.int .i64, .int .i64] l] [] (extremes_res s l a b) := by kernel_rfl
theorem extremes_holds (s : Int) (l : List (List Int)) (a : Int) (b : Int) (p0 : (mValid s l) = true) : (LoopP (ex Try.prog (inlOf Try.prog [] [(119, Try.f119)] []) (subC (bodyOf Try.f95) [1, 1, 1, 1, 0, 1, 0, 0])) (kont Try.prog (inlOf Try.prog [] [(119, Try.f119)] []) (bodyOf Try.f95) [1, 1, 1, 1, 0, 1, 0] (retPost Try.prog Try.f95 1 (extremes_res s l a b))) (extremes_L1_S1 s l a b)) := by
  obtain ⟨v1, v2, v3⟩ := mV_iff.1 p0
  exact extremes_L1_1 s l a b p0 ⟨⟨⟨by omega, by omega, by omega⟩, ⟨by omega, by omega, v3⟩, rfl, rfl⟩, by simp⟩
set_option maxHeartbeats 2000000 in
theorem extremes_ok : SoundEnt Try.prog extremes_e := by
  refine ent_of_ex (Γ := (inlOf Try.prog [] [(119, Try.f119)] [])) (inlOf_sound snil (by kernel_rfl) ⟨⟨Try.func119, by kernel_rfl, by kernel_rfl⟩, trivial⟩ spnil) (by kernel_rfl) Try.func95 (by kernel_rfl) (by kernel_rfl) (fun args rows caps res h ho => ?_)
  change extremes_go args rows caps = some res at h
  unfold extremes_go at h
  split at h
  · simp only [Option.some.injEq] at h
    subst h
    rename_i q0_ q2_ q3_ q1_
    obtain ⟨p0, _⟩ := ho
    exact EX.of (extremes_tree q0_ q1_ q2_ q3_) (extremes_holds q0_ q1_ q2_ q3_ p0)
  · cases h
def calm_res (l : List Int) (k : List Int) (j : List Int) (d : List Int) (u : List Int) : CRes := ⟨[vE l, decide (k.length = l.length - 1), k.all (fun x => decide (0 ≤ x) && decide (x ≤ 120)), j.all isJ], .one (.cel (.bool (calmB l k j))), []⟩
def calm_go : List TV → List RowA → List (List CV) → Option CRes := fun args rows caps =>
  match args, rows, caps with
  | [.cel (.row 0), .cel (.row 1), .agg [.row 2, .row 3, .row 4]], [.ints .i64 l, .ints .i64 k, .ints .i64 j, .ints .i64 d, .ints .i64 u], [] => some (calm_res l k j d u)
  | _, _, _ => none
def calm_e : Ent := ⟨46, [.ints .i64 [], .ints .i64 [], .ints .i64 [], .ints .i64 [], .ints .i64 []], calm_go⟩
def calm_L1_F (l : List Int) (k : List Int) (j : List Int) (d : List Int) (u : List Int) (i : Int) : St := ⟨51, [], [(13, (.one (.cel (.int .i64 i)))), (12, (.one (.cel (.int .i64 (((List.length k) : Nat) : Int))))), (6, (.one (.cel (.bool Bool.false)))), (5, (.one (.cel (.ptr 0 0)))), (0, (.one (.cel (.row 0)))), (1, (.one (.cel (.row 1))))], [[(.row 2), (.row 3), (.row 4)]], [⟨(.ints .i64 l), none⟩, ⟨(.ints .i64 k), none⟩, ⟨(.ints .i64 j), none⟩, ⟨(.ints .i64 d), none⟩, ⟨(.ints .i64 u), none⟩], 0⟩
def calm_L1_I (l : List Int) (k : List Int) (j : List Int) (d : List Int) (u : List Int) (i : Int) : Prop := (0 ≤ i ∧ i ≤ k.length) ∧ (allB (calmP l k j) i.toNat = true)
def calm_L1_m (l : List Int) (k : List Int) (j : List Int) (d : List Int) (u : List Int) (i : Int) : Nat := (k.length - i).toNat
def calm_L1_N (l : List Int) (k : List Int) (j : List Int) (d : List Int) (u : List Int) (i' : Int) (st_ : St) : Prop := getI st_ 13 fun i => calm_L1_I l k j d u i ∧ calm_L1_m l k j d u i < calm_L1_m l k j d u i' ∧ SubA st_ (calm_L1_F l k j d u i)
def calm_L1_E (l : List Int) (k : List Int) (j : List Int) (d : List Int) (u : List Int) (st_ : St) : Prop := getI st_ 13 fun i => calm_L1_I l k j d u i ∧ SubA st_ (calm_L1_F l k j d u i)
def calm_L1_S1 (l : List Int) (k : List Int) (j : List Int) (d : List Int) (u : List Int) : St := ⟨51, [], [(13, (.one (.cel (.int .i64 (0 : Int))))), (12, (.one (.cel (.int .i64 (((List.length k) : Nat) : Int))))), (11, (.one (.cel (.row 1)))), (6, (.one (.cel (.bool Bool.false)))), (5, (.one (.cel (.ptr 0 0)))), (0, (.one (.cel (.row 0)))), (1, (.one (.cel (.row 1)))), (2, (.one (.agg [(.row 2), (.row 3), (.row 4)])))], [[(.row 2), (.row 3), (.row 4)]], [⟨(.ints .i64 l), none⟩, ⟨(.ints .i64 k), none⟩, ⟨(.ints .i64 j), none⟩, ⟨(.ints .i64 d), none⟩, ⟨(.ints .i64 u), none⟩], 0⟩
def calm_L2_F (l : List Int) (k : List Int) (j : List Int) (d : List Int) (u : List Int) (i : Int) (x : Int) : St := ⟨51, [], [(21, (.one (.cel (.int .i64 x)))), (20, (.one (.cel (.int .i64 (((List.length [i, (Go.IntKind.wrap Go.IntKind.i64 (i + (1 : Int)))]) : Nat) : Int))))), (19, (.one (.cel (.row 5)))), (18, (.one (.cel (.int .i64 (Go.IntKind.wrap Go.IntKind.i64 (i + (1 : Int))))))), (17, (.one (.cel (.int .i64 i)))), (16, (.one (.cel (.int .i64 i)))), (7, (.one (.cel (.int .i64 i)))), (15, (.one (.cel (.int .i64 i)))), (14, (.one (.cel (.bool (decide (i < (((List.length k) : Nat) : Int))))))), (13, (.one (.cel (.int .i64 i)))), (12, (.one (.cel (.int .i64 (((List.length k) : Nat) : Int))))), (6, (.one (.cel (.bool Bool.false)))), (5, (.one (.cel (.ptr 0 0)))), (0, (.one (.cel (.row 0)))), (1, (.one (.cel (.row 1))))], [[(.row 2), (.row 3), (.row 4)]], [⟨(.ints .i64 l), none⟩, ⟨(.ints .i64 k), none⟩, ⟨(.ints .i64 j), none⟩, ⟨(.ints .i64 d), none⟩, ⟨(.ints .i64 u), none⟩, ⟨(.ints .i64 [i, (Go.IntKind.wrap Go.IntKind.i64 (i + (1 : Int)))]), some 3⟩], 0⟩
def calm_L2_I (l : List Int) (k : List Int) (j : List Int) (d : List Int) (u : List Int) (i : Int) (x : Int) : Prop := (0 ≤ x ∧ x ≤ 2) ∧ (1 ≤ x → 64 * aab (mvd j i) * k.getD i.toNat 0 ≤ l.getD (i.toNat + 1) 0 - l.getD i.toNat 0) ∧ (x = 2 → 64 * aab (mvd j (i + 1)) * k.getD i.toNat 0 ≤ l.getD (i.toNat + 1) 0 - l.getD i.toNat 0) ∧ (i < k.length)
def calm_L2_m (l : List Int) (k : List Int) (j : List Int) (d : List Int) (u : List Int) (i : Int) (x : Int) : Nat := (2 - x).toNat
def calm_L2_N (l : List Int) (k : List Int) (j : List Int) (d : List Int) (u : List Int) (i : Int) (x' : Int) (st_ : St) : Prop := getI st_ 21 fun x => calm_L2_I l k j d u i x ∧ calm_L2_m l k j d u i x < calm_L2_m l k j d u i x' ∧ SubA st_ (calm_L2_F l k j d u i x)
def calm_L2_E (l : List Int) (k : List Int) (j : List Int) (d : List Int) (u : List Int) (i : Int) (st_ : St) : Prop := getI st_ 21 fun x => calm_L2_I l k j d u i x ∧ SubA st_ (calm_L2_F l k j d u i x)
def calm_L2_S1 (l : List Int) (k : List Int) (j : List Int) (d : List Int) (u : List Int) (i : Int) : St := ⟨51, [], [(21, (.one (.cel (.int .i64 (0 : Int))))), (20, (.one (.cel (.int .i64 (((List.length [i, (Go.IntKind.wrap Go.IntKind.i64 (i + (1 : Int)))]) : Nat) : Int))))), (19, (.one (.cel (.row 5)))), (18, (.one (.cel (.int .i64 (Go.IntKind.wrap Go.IntKind.i64 (i + (1 : Int))))))), (17, (.one (.cel (.int .i64 i)))), (16, (.one (.cel (.int .i64 i)))), (7, (.one (.cel (.int .i64 i)))), (15, (.one (.cel (.int .i64 i)))), (14, (.one (.cel (.bool (decide (i < (((List.length k) : Nat) : Int))))))), (13, (.one (.cel (.int .i64 i)))), (12, (.one (.cel (.int .i64 (((List.length k) : Nat) : Int))))), (6, (.one (.cel (.bool Bool.false)))), (5, (.one (.cel (.ptr 0 0)))), (0, (.one (.cel (.row 0)))), (1, (.one (.cel (.row 1))))], [[(.row 2), (.row 3), (.row 4)]], [⟨(.ints .i64 l), none⟩, ⟨(.ints .i64 k), none⟩, ⟨(.ints .i64 j), none⟩, ⟨(.ints .i64 d), none⟩, ⟨(.ints .i64 u), none⟩, ⟨(.ints .i64 [i, (Go.IntKind.wrap Go.IntKind.i64 (i + (1 : Int)))]), some 3⟩], 0⟩
def calm_L2_T (l : List Int) (k : List Int) (j : List Int) (d : List Int) (u : List Int) (i : Int) (x : Int) : Prop := (cnd (decide (x < (((List.length [i, (Go.IntKind.wrap Go.IntKind.i64 (i + (1 : Int)))]) : Nat) : Int)))
  (cnd (decide ((0 : Int) ≤ x))
    (cnd (decide (x < (((List.length [i, (Go.IntKind.wrap Go.IntKind.i64 (i + (1 : Int)))]) : Nat) : Int)))
      (cnd (decide ((0 : Int) ≤ (List.getD [i, (Go.IntKind.wrap Go.IntKind.i64 (i + (1 : Int)))] (Int.toNat x) (0 : Int))))
        (cnd (decide ((0 : Int) ≤ i))
          (cnd (decide (i < (((List.length k) : Nat) : Int)))
            (cnd (decide ((0 : Int) ≤ (Go.IntKind.wrap Go.IntKind.i64 (i + (1 : Int)))))
              (cnd (decide ((Go.IntKind.wrap Go.IntKind.i64 (i + (1 : Int))) < (((List.length l) : Nat) : Int)))
                (cnd (decide ((0 : Int) ≤ i))
                  (cnd (decide (i < (((List.length l) : Nat) : Int)))
                    (cnd (decide ((Go.IntKind.wrap Go.IntKind.i64 ((List.getD l (Int.toNat (Go.IntKind.wrap Go.IntKind.i64 (i + (1 : Int)))) (0 : Int)) - (List.getD l (Int.toNat i) (0 : Int)))) < (Go.IntKind.wrap Go.IntKind.i64 ((Go.IntKind.wrap Go.IntKind.i64 ((64 : Int) * (gmax (mvd j (List.getD [i, (Go.IntKind.wrap Go.IntKind.i64 (i + (1 : Int)))] (Int.toNat x) (0 : Int))) (Go.IntKind.wrap Go.IntKind.i64 ((0 : Int) - (mvd j (List.getD [i, (Go.IntKind.wrap Go.IntKind.i64 (i + (1 : Int)))] (Int.toNat x) (0 : Int)))))))) * (List.getD k (Int.toNat i) (0 : Int))))))
                      (Bool.false = (calmB l k j))
                      ((calm_L2_I l k j d u i (Go.IntKind.wrap Go.IntKind.i64 (x + (1 : Int)))) ∧ (((calm_L2_m l k j d u i (Go.IntKind.wrap Go.IntKind.i64 (x + (1 : Int)))) < (calm_L2_m l k j d u i x)) ∧ (((Go.IntKind.wrap Go.IntKind.i64 (x + (1 : Int))) = (Go.IntKind.wrap Go.IntKind.i64 (x + (1 : Int)))) ∧ (((((List.length [i, (Go.IntKind.wrap Go.IntKind.i64 (i + (1 : Int)))]) : Nat) : Int) = (((List.length [i, (Go.IntKind.wrap Go.IntKind.i64 (i + (1 : Int)))]) : Nat) : Int)) ∧ (True ∧ (((Go.IntKind.wrap Go.IntKind.i64 (i + (1 : Int))) = (Go.IntKind.wrap Go.IntKind.i64 (i + (1 : Int)))) ∧ ((i = i) ∧ ((i = i) ∧ ((i = i) ∧ ((i = i) ∧ (((decide (i < (((List.length k) : Nat) : Int))) = (decide (i < (((List.length k) : Nat) : Int)))) ∧ ((i = i) ∧ (((((List.length k) : Nat) : Int) = (((List.length k) : Nat) : Int)) ∧ ((Bool.false = Bool.false) ∧ (True ∧ (True ∧ (True ∧ ((True ∧ (True ∧ True)) ∧ ((l = l) ∧ ((k = k) ∧ ((j = j) ∧ ((d = d) ∧ ((u = u) ∧ (([i, (Go.IntKind.wrap Go.IntKind.i64 (i + (1 : Int)))] = [i, (Go.IntKind.wrap Go.IntKind.i64 (i + (1 : Int)))]) ∧ True)))))))))))))))))))))))))
                    False)
                  False)
                False)
              False)
            False)
          False)
        False)
      False)
    False)
  ((calm_L1_I l k j d u (Go.IntKind.wrap Go.IntKind.i64 (i + (1 : Int)))) ∧ (((calm_L1_m l k j d u (Go.IntKind.wrap Go.IntKind.i64 (i + (1 : Int)))) < (calm_L1_m l k j d u i)) ∧ (((Go.IntKind.wrap Go.IntKind.i64 (i + (1 : Int))) = (Go.IntKind.wrap Go.IntKind.i64 (i + (1 : Int)))) ∧ (((((List.length k) : Nat) : Int) = (((List.length k) : Nat) : Int)) ∧ ((Bool.false = Bool.false) ∧ (True ∧ (True ∧ (True ∧ ((True ∧ (True ∧ True)) ∧ ((l = l) ∧ ((k = k) ∧ ((j = j) ∧ ((d = d) ∧ ((u = u) ∧ True)))))))))))))))
set_option maxRecDepth 100000 in
theorem calm_L2_tree (l : List Int) (k : List Int) (j : List Int) (d : List Int) (u : List Int) (i : Int) (x : Int) : calm_L2_T l k j d u i x = ex Try.prog (conOf [moved_e]) (subC (subC (bodyOf Try.f46) [1, 0, 1, 0, 0]) [1, 1, 0, 0, 1, 1, 0, 0]) (nextE (calm_L2_N l k j d u i x) (kont Try.prog (conOf [moved_e]) (subC (bodyOf Try.f46) [1, 0, 1, 0, 0]) [1, 1, 0, 0, 1, 1, 0] (nextE (calm_L1_N l k j d u i) (kont Try.prog (conOf [moved_e]) (bodyOf Try.f46) [1, 0, 1, 0] (retPost Try.prog Try.f46 5 (calm_res l k j d u)))))) (calm_L2_F l k j d u i x) := by kernel_rfl
set_option maxRecDepth 100000 in
theorem calm_L2_round (l : List Int) (k : List Int) (j : List Int) (d : List Int) (u : List Int) (i : Int) (x : Int) (p0 : (vE l) = true) (p1 : (decide (k.length = l.length - 1)) = true) (p2 : (k.all (fun x => decide (0 ≤ x) && decide (x ≤ 120))) = true) (p3 : (j.all isJ) = true) (hI_L1 : calm_L1_I l k j d u i) (hI_L2 : calm_L2_I l k j d u i x) : calm_L2_T l k j d u i x := by
  obtain ⟨⟨a1, a2⟩, a3⟩ := hI_L1
  obtain ⟨⟨b1, b2⟩, b3, b4, b5⟩ := hI_L2
  obtain ⟨v1, v2, v3⟩ := vE_iff.1 p0
  simp only [decide_eq_true_eq] at p1
  have hk := k_bd p2 (j := i.toNat) (by omega)
  have t0 := isT_iff.1 (all_get v2 (j := i.toNat) (by omega))
  have t1 := isT_iff.1 (all_get v2 (j := i.toNat + 1) (by omega))
  have hlt := incr_get (j := i.toNat) v3 (by omega)
  have hF : ∀ x' : Int, 0 ≤ x' ∧ x' ≤ 2 → (1 ≤ x' → 64 * aab (mvd j i) * k.getD i.toNat 0 ≤ l.getD (i.toNat + 1) 0 - l.getD i.toNat 0) → (x' = 2 → 64 * aab (mvd j (i + 1)) * k.getD i.toNat 0 ≤ l.getD (i.toNat + 1) 0 - l.getD i.toNat 0) → calm_L2_I l k j d u i x' := fun x' h1 h2 h3 => ⟨h1, h2, h3, b5⟩
  have hμ : x < 2 → calm_L2_m l k j d u i (x + 1) < calm_L2_m l k j d u i x := fun h => by unfold calm_L2_m; omega
  have hG : calmP l k j i.toNat = true → calm_L1_I l k j d u (i + 1) := fun h => ⟨⟨by omega, by omega⟩, by rw [show (i + 1).toNat = i.toNat + 1 by omega, allB, a3, h]; rfl⟩
  have hν : calm_L1_m l k j d u (i + 1) < calm_L1_m l k j d u i := by unfold calm_L1_m; omega
  have hN : calmP l k j i.toNat = false → calmB l k j = false := fun h => allB_no (i := i.toNat) (by omega) h
  have hP : calmP l k j i.toNat = (decide (64 * aab (mvd j i) * k.getD i.toNat 0 ≤ l.getD (i.toNat + 1) 0 - l.getD i.toNat 0) && decide (64 * aab (mvd j (i + 1)) * k.getD i.toNat 0 ≤ l.getD (i.toNat + 1) 0 - l.getD i.toNat 0)) := by
    unfold calmP
    rw [show ((i.toNat : Nat) : Int) = i by omega]
  have j0 := mvd_J p3 i
  have j1 := mvd_J p3 (i + 1)
  have g0 := aab_bd j0
  have g1 := aab_bd j1
  have m0 := mul_bd (A := 64 * 1099511627776) (show 0 ≤ 64 * aab (mvd j i) by omega) (by omega) hk.1 hk.2
  have m1 := mul_bd (A := 64 * 1099511627776) (show 0 ≤ 64 * aab (mvd j (i + 1)) by omega) (by omega) hk.1 hk.2
  unfold calm_L2_T
  rw [w64 (n := i + 1) (by omega) (by omega), w64 (n := x + 1) (by omega) (by omega)]
  have hx2 : (([i, i + 1] : List Int).length : Int) = 2 := rfl
  rw [show (i + 1).toNat = i.toNat + 1 by omega, w64 (n := l.getD (i.toNat + 1) 0 - l.getD i.toNat 0) (by omega) (by omega), decide_eq_true b5, decide_eq_true a1, decide_eq_true (show 0 ≤ i + 1 by omega), decide_eq_true (show i + 1 < (l.length : Int) by omega), decide_eq_true (show i < (l.length : Int) by omega), decide_eq_true b1]
  by_cases h0 : x = 0
  · subst h0
    rw [decide_eq_true (show (0 : Int) < (([i, i + 1] : List Int).length : Int) by omega), show ([i, i + 1] : List Int).getD (0 : Int).toNat 0 = i from rfl, gm_abs j0, w64 (n := 64 * aab (mvd j i)) (by omega) (by omega), w64 (n := 64 * aab (mvd j i) * k.getD i.toNat 0) (by omega) (by omega), decide_eq_true a1]
    by_cases hc : 64 * aab (mvd j i) * k.getD i.toNat 0 ≤ l.getD (i.toNat + 1) 0 - l.getD i.toNat 0
    · rw [decide_eq_false (show ¬ l.getD (i.toNat + 1) 0 - l.getD i.toNat 0 < 64 * aab (mvd j i) * k.getD i.toNat 0 by omega)]
      exact ⟨hF _ (by omega) (fun _ => hc) (fun h => by omega), hμ (by omega), by simp⟩
    · rw [decide_eq_true (show l.getD (i.toNat + 1) 0 - l.getD i.toNat 0 < 64 * aab (mvd j i) * k.getD i.toNat 0 by omega)]
      exact (hN (by rw [hP, decide_eq_false hc]; rfl)).symm
  · by_cases h1 : x = 1
    · subst h1
      rw [decide_eq_true (show (1 : Int) < (([i, i + 1] : List Int).length : Int) by omega), show ([i, i + 1] : List Int).getD (1 : Int).toNat 0 = i + 1 from rfl, gm_abs j1, w64 (n := 64 * aab (mvd j (i + 1))) (by omega) (by omega), w64 (n := 64 * aab (mvd j (i + 1)) * k.getD i.toNat 0) (by omega) (by omega), decide_eq_true (show 0 ≤ i + 1 by omega)]
      by_cases hc : 64 * aab (mvd j (i + 1)) * k.getD i.toNat 0 ≤ l.getD (i.toNat + 1) 0 - l.getD i.toNat 0
      · rw [decide_eq_false (show ¬ l.getD (i.toNat + 1) 0 - l.getD i.toNat 0 < 64 * aab (mvd j (i + 1)) * k.getD i.toNat 0 by omega)]
        exact ⟨hF _ (by omega) (fun _ => b3 (by omega)) (fun _ => hc), hμ (by omega), by simp⟩
      · rw [decide_eq_true (show l.getD (i.toNat + 1) 0 - l.getD i.toNat 0 < 64 * aab (mvd j (i + 1)) * k.getD i.toNat 0 by omega)]
        exact (hN (by rw [hP, decide_eq_false hc, Bool.and_false])).symm
    · rw [decide_eq_false (show ¬ x < (([i, i + 1] : List Int).length : Int) by omega)]
      exact ⟨hG (by rw [hP, decide_eq_true (b3 (by omega)), decide_eq_true (b4 (by omega))]; rfl), hν, by simp⟩
set_option maxRecDepth 100000 in
theorem calm_L2_entry1 (l : List Int) (k : List Int) (j : List Int) (d : List Int) (u : List Int) (i : Int) : (((calm_L2_I l k j d u i (0 : Int)) ∧ (((0 : Int) = (0 : Int)) ∧ (((((List.length [i, (Go.IntKind.wrap Go.IntKind.i64 (i + (1 : Int)))]) : Nat) : Int) = (((List.length [i, (Go.IntKind.wrap Go.IntKind.i64 (i + (1 : Int)))]) : Nat) : Int)) ∧ (True ∧ (((Go.IntKind.wrap Go.IntKind.i64 (i + (1 : Int))) = (Go.IntKind.wrap Go.IntKind.i64 (i + (1 : Int)))) ∧ ((i = i) ∧ ((i = i) ∧ ((i = i) ∧ ((i = i) ∧ (((decide (i < (((List.length k) : Nat) : Int))) = (decide (i < (((List.length k) : Nat) : Int)))) ∧ ((i = i) ∧ (((((List.length k) : Nat) : Int) = (((List.length k) : Nat) : Int)) ∧ ((Bool.false = Bool.false) ∧ (True ∧ (True ∧ (True ∧ ((True ∧ (True ∧ True)) ∧ ((l = l) ∧ ((k = k) ∧ ((j = j) ∧ ((d = d) ∧ ((u = u) ∧ (([i, (Go.IntKind.wrap Go.IntKind.i64 (i + (1 : Int)))] = [i, (Go.IntKind.wrap Go.IntKind.i64 (i + (1 : Int)))]) ∧ True)))))))))))))))))))))))) = calm_L2_E l k j d u i (calm_L2_S1 l k j d u i) := by kernel_rfl
theorem calm_L2_1 (l : List Int) (k : List Int) (j : List Int) (d : List Int) (u : List Int) (i : Int) (p0 : (vE l) = true) (p1 : (decide (k.length = l.length - 1)) = true) (p2 : (k.all (fun x => decide (0 ≤ x) && decide (x ≤ 120))) = true) (p3 : (j.all isJ) = true) (hI_L1 : calm_L1_I l k j d u i) (h : ((calm_L2_I l k j d u i (0 : Int)) ∧ (((0 : Int) = (0 : Int)) ∧ (((((List.length [i, (Go.IntKind.wrap Go.IntKind.i64 (i + (1 : Int)))]) : Nat) : Int) = (((List.length [i, (Go.IntKind.wrap Go.IntKind.i64 (i + (1 : Int)))]) : Nat) : Int)) ∧ (True ∧ (((Go.IntKind.wrap Go.IntKind.i64 (i + (1 : Int))) = (Go.IntKind.wrap Go.IntKind.i64 (i + (1 : Int)))) ∧ ((i = i) ∧ ((i = i) ∧ ((i = i) ∧ ((i = i) ∧ (((decide (i < (((List.length k) : Nat) : Int))) = (decide (i < (((List.length k) : Nat) : Int)))) ∧ ((i = i) ∧ (((((List.length k) : Nat) : Int) = (((List.length k) : Nat) : Int)) ∧ ((Bool.false = Bool.false) ∧ (True ∧ (True ∧ (True ∧ ((True ∧ (True ∧ True)) ∧ ((l = l) ∧ ((k = k) ∧ ((j = j) ∧ ((d = d) ∧ ((u = u) ∧ (([i, (Go.IntKind.wrap Go.IntKind.i64 (i + (1 : Int)))] = [i, (Go.IntKind.wrap Go.IntKind.i64 (i + (1 : Int)))]) ∧ True)))))))))))))))))))))))) : LoopP (ex Try.prog (conOf [moved_e]) (subC (subC (bodyOf Try.f46) [1, 0, 1, 0, 0]) [1, 1, 0, 0, 1, 1, 0, 0])) (kont Try.prog (conOf [moved_e]) (subC (bodyOf Try.f46) [1, 0, 1, 0, 0]) [1, 1, 0, 0, 1, 1, 0] (nextE (calm_L1_N l k j d u i) (kont Try.prog (conOf [moved_e]) (bodyOf Try.f46) [1, 0, 1, 0] (retPost Try.prog Try.f46 5 (calm_res l k j d u))))) (calm_L2_S1 l k j d u i) := by
  have hE : calm_L2_E l k j d u i (calm_L2_S1 l k j d u i) := Eq.mp (calm_L2_entry1 l k j d u i) h
  unfold calm_L2_E at hE
  obtain ⟨x, hE⟩ := getI_of hE
  refine loop_of (α := (Int)) (fun xx_ => calm_L2_F l k j d u i xx_) (fun xx_ => calm_L2_I l k j d u i xx_) (fun xx_ => calm_L2_m l k j d u i xx_) (fun xx_ => calm_L2_N l k j d u i xx_) (fun xx_ => calm_L2_T l k j d u i xx_) (fun xx_ s_ h => ?_) ⟨x, hE⟩ (fun xx_ => calm_L2_tree l k j d u i xx_) (fun xx_ hI => calm_L2_round l k j d u i xx_ p0 p1 p2 p3 hI_L1 hI)
  unfold calm_L2_N at h
  obtain ⟨x, h⟩ := getI_of h
  exact ⟨x, h⟩
def calm_L1_T (l : List Int) (k : List Int) (j : List Int) (d : List Int) (u : List Int) (i : Int) : Prop := (cnd (decide (i < (((List.length k) : Nat) : Int)))
  (LoopP (ex Try.prog (conOf [moved_e]) (subC (subC (bodyOf Try.f46) [1, 0, 1, 0, 0]) [1, 1, 0, 0, 1, 1, 0, 0])) (kont Try.prog (conOf [moved_e]) (subC (bodyOf Try.f46) [1, 0, 1, 0, 0]) [1, 1, 0, 0, 1, 1, 0] (nextE (calm_L1_N l k j d u i) (kont Try.prog (conOf [moved_e]) (bodyOf Try.f46) [1, 0, 1, 0] (retPost Try.prog Try.f46 5 (calm_res l k j d u))))) (calm_L2_S1 l k j d u i))
  (Bool.true = (calmB l k j)))
set_option maxRecDepth 100000 in
theorem calm_L1_tree (l : List Int) (k : List Int) (j : List Int) (d : List Int) (u : List Int) (i : Int) : calm_L1_T l k j d u i = ex Try.prog (conOf [moved_e]) (subC (bodyOf Try.f46) [1, 0, 1, 0, 0]) (nextE (calm_L1_N l k j d u i) (kont Try.prog (conOf [moved_e]) (bodyOf Try.f46) [1, 0, 1, 0] (retPost Try.prog Try.f46 5 (calm_res l k j d u)))) (calm_L1_F l k j d u i) := by kernel_rfl
set_option maxRecDepth 100000 in
theorem calm_L1_round (l : List Int) (k : List Int) (j : List Int) (d : List Int) (u : List Int) (i : Int) (p0 : (vE l) = true) (p1 : (decide (k.length = l.length - 1)) = true) (p2 : (k.all (fun x => decide (0 ≤ x) && decide (x ≤ 120))) = true) (p3 : (j.all isJ) = true) (hI_L1 : calm_L1_I l k j d u i) : calm_L1_T l k j d u i := by
  obtain ⟨⟨a1, a2⟩, a3⟩ := hI_L1
  unfold calm_L1_T
  by_cases hi : i < k.length
  · rw [decide_eq_true hi]
    exact calm_L2_1 l k j d u i p0 p1 p2 p3 ⟨⟨a1, a2⟩, a3⟩ ⟨⟨⟨by omega, by omega⟩, fun h => by omega, fun h => by omega, hi⟩, by simp⟩
  · rw [decide_eq_false hi]
    show true = calmB l k j
    unfold calmB
    rw [← a3, show i.toNat = k.length by omega]
set_option maxRecDepth 100000 in
theorem calm_L1_entry1 (l : List Int) (k : List Int) (j : List Int) (d : List Int) (u : List Int) : (((calm_L1_I l k j d u (0 : Int)) ∧ (((0 : Int) = (0 : Int)) ∧ (((((List.length k) : Nat) : Int) = (((List.length k) : Nat) : Int)) ∧ ((Bool.false = Bool.false) ∧ (True ∧ (True ∧ (True ∧ ((True ∧ (True ∧ True)) ∧ ((l = l) ∧ ((k = k) ∧ ((j = j) ∧ ((d = d) ∧ ((u = u) ∧ True)))))))))))))) = calm_L1_E l k j d u (calm_L1_S1 l k j d u) := by kernel_rfl
theorem calm_L1_1 (l : List Int) (k : List Int) (j : List Int) (d : List Int) (u : List Int) (p0 : (vE l) = true) (p1 : (decide (k.length = l.length - 1)) = true) (p2 : (k.all (fun x => decide (0 ≤ x) && decide (x ≤ 120))) = true) (p3 : (j.all isJ) = true) (h : ((calm_L1_I l k j d u (0 : Int)) ∧ (((0 : Int) = (0 : Int)) ∧ (((((List.length k) : Nat) : Int) = (((List.length k) : Nat) : Int)) ∧ ((Bool.false = Bool.false) ∧ (True ∧ (True ∧ (True ∧ ((True ∧ (True ∧ True)) ∧ ((l = l) ∧ ((k = k) ∧ ((j = j) ∧ ((d = d) ∧ ((u = u) ∧ True)))))))))))))) : LoopP (ex Try.prog (conOf [moved_e]) (subC (bodyOf Try.f46) [1, 0, 1, 0, 0])) (kont Try.prog (conOf [moved_e]) (bodyOf Try.f46) [1, 0, 1, 0] (retPost Try.prog Try.f46 5 (calm_res l k j d u))) (calm_L1_S1 l k j d u) := by
  have hE : calm_L1_E l k j d u (calm_L1_S1 l k j d u) := Eq.mp (calm_L1_entry1 l k j d u) h
  unfold calm_L1_E at hE
  obtain ⟨i, hE⟩ := getI_of hE
  refine loop_of (α := (Int)) (fun xx_ => calm_L1_F l k j d u xx_) (fun xx_ => calm_L1_I l k j d u xx_) (fun xx_ => calm_L1_m l k j d u xx_) (fun xx_ => calm_L1_N l k j d u xx_) (fun xx_ => calm_L1_T l k j d u xx_) (fun xx_ s_ h => ?_) ⟨i, hE⟩ (fun xx_ => calm_L1_tree l k j d u xx_) (fun xx_ hI => calm_L1_round l k j d u xx_ p0 p1 p2 p3 hI)
  unfold calm_L1_N at h
  obtain ⟨i, h⟩ := getI_of h
  exact ⟨i, h⟩
set_option maxRecDepth 100000 in
theorem calm_tree (l : List Int) (k : List Int) (j : List Int) (d : List Int) (u : List Int) : ((LoopP (ex Try.prog (conOf [moved_e]) (subC (bodyOf Try.f46) [1, 0, 1, 0, 0])) (kont Try.prog (conOf [moved_e]) (bodyOf Try.f46) [1, 0, 1, 0] (retPost Try.prog Try.f46 5 (calm_res l k j d u))) (calm_L1_S1 l k j d u))) = EXD Try.prog (conOf [moved_e]) Try.f46 [.cel (.row 0), .cel (.row 1), .agg [.row 2, .row 3, .row 4]] [.ints .i64 l, .ints .i64 k, .ints .i64 j, .ints .i64 d, .ints .i64 u] [] (calm_res l k j d u) := by kernel_rfl
theorem calm_holds (l : List Int) (k : List Int) (j : List Int) (d : List Int) (u : List Int) (p0 : (vE l) = true) (p1 : (decide (k.length = l.length - 1)) = true) (p2 : (k.all (fun x => decide (0 ≤ x) && decide (x ≤ 120))) = true) (p3 : (j.all isJ) = true) : (LoopP (ex Try.prog (conOf [moved_e]) (subC (bodyOf Try.f46) [1, 0, 1, 0, 0])) (kont Try.prog (conOf [moved_e]) (bodyOf Try.f46) [1, 0, 1, 0] (retPost Try.prog Try.f46 5 (calm_res l k j d u))) (calm_L1_S1 l k j d u)) := by
  exact calm_L1_1 l k j d u p0 p1 p2 p3 ⟨⟨⟨by omega, by omega⟩, rfl⟩, by simp⟩
set_option maxHeartbeats 2000000 in
theorem calm_ok : SoundEnt Try.prog calm_e := by
  refine ent_of_ex (Γ := (conOf [moved_e])) (conOf_sound (scons moved_ok snil)) (by kernel_rfl) Try.func46 (by kernel_rfl) (by kernel_rfl) (fun args rows caps res h ho => ?_)
  change calm_go args rows caps = some res at h
  unfold calm_go at h
  split at h
  · simp only [Option.some.injEq] at h
    subst h
    rename_i q0_ q1_ q2_ q3_ q4_
    obtain ⟨p0, p1, p2, p3, _⟩ := ho
    exact EX.of (calm_tree q0_ q1_ q2_ q3_ q4_) (calm_holds q0_ q1_ q2_ q3_ q4_ p0 p1 p2 p3)
  · cases h
def spared_res (l : List Int) (k : List Int) (j : List Int) (d : List Int) (u : List Int) : CRes := ⟨[vE l, decide (k.length = l.length - 1), k.all (fun x => decide (0 ≤ x) && decide (x ≤ 120)), j.all isJ, u.all isT, decide (u.length ≤ 1000)], .one (.cel (.bool (u.all (sparP l k j)))), []⟩
def spared_go : List TV → List RowA → List (List CV) → Option CRes := fun args rows caps =>
  match args, rows, caps with
  | [.cel (.row 0), .cel (.row 1), .agg [.row 2, .row 3, .row 4]], [.ints .i64 l, .ints .i64 k, .ints .i64 j, .ints .i64 d, .ints .i64 u], [] => some (spared_res l k j d u)
  | _, _, _ => none
def spared_e : Ent := ⟨47, [.ints .i64 [], .ints .i64 [], .ints .i64 [], .ints .i64 [], .ints .i64 []], spared_go⟩
def spared_L1_F (l : List Int) (k : List Int) (j : List Int) (d : List Int) (u : List Int) (i : Int) : St := ⟨73, [], [(15, (.one (.cel (.int .i64 i)))), (14, (.one (.cel (.int .i64 (((List.length u) : Nat) : Int))))), (13, (.one (.cel (.row 4)))), (6, (.one (.cel (.bool Bool.false)))), (5, (.one (.cel (.ptr 0 0)))), (0, (.one (.cel (.row 0)))), (1, (.one (.cel (.row 1))))], [[(.row 2), (.row 3), (.row 4)]], [⟨(.ints .i64 l), none⟩, ⟨(.ints .i64 k), none⟩, ⟨(.ints .i64 j), none⟩, ⟨(.ints .i64 d), none⟩, ⟨(.ints .i64 u), none⟩], 0⟩
def spared_L1_I (l : List Int) (k : List Int) (j : List Int) (d : List Int) (u : List Int) (i : Int) : Prop := (0 ≤ i ∧ i ≤ u.length) ∧ (u.all (sparP l k j) = (u.drop i.toNat).all (sparP l k j))
def spared_L1_m (l : List Int) (k : List Int) (j : List Int) (d : List Int) (u : List Int) (i : Int) : Nat := (u.length - i).toNat
def spared_L1_N (l : List Int) (k : List Int) (j : List Int) (d : List Int) (u : List Int) (i' : Int) (st_ : St) : Prop := getI st_ 15 fun i => spared_L1_I l k j d u i ∧ spared_L1_m l k j d u i < spared_L1_m l k j d u i' ∧ SubA st_ (spared_L1_F l k j d u i)
def spared_L1_E (l : List Int) (k : List Int) (j : List Int) (d : List Int) (u : List Int) (st_ : St) : Prop := getI st_ 15 fun i => spared_L1_I l k j d u i ∧ SubA st_ (spared_L1_F l k j d u i)
def spared_L1_S1 (l : List Int) (k : List Int) (j : List Int) (d : List Int) (u : List Int) : St := ⟨73, [], [(15, (.one (.cel (.int .i64 (0 : Int))))), (14, (.one (.cel (.int .i64 (((List.length u) : Nat) : Int))))), (13, (.one (.cel (.row 4)))), (12, (.one (.cel (.ptr 0 2)))), (6, (.one (.cel (.bool Bool.false)))), (5, (.one (.cel (.ptr 0 0)))), (0, (.one (.cel (.row 0)))), (1, (.one (.cel (.row 1)))), (2, (.one (.agg [(.row 2), (.row 3), (.row 4)])))], [[(.row 2), (.row 3), (.row 4)]], [⟨(.ints .i64 l), none⟩, ⟨(.ints .i64 k), none⟩, ⟨(.ints .i64 j), none⟩, ⟨(.ints .i64 d), none⟩, ⟨(.ints .i64 u), none⟩], 0⟩
def spared_L2_F (l : List Int) (k : List Int) (j : List Int) (d : List Int) (u : List Int) (i : Int) (q : Int) (w : Int) : St := ⟨73, [], [(21, (.one (.cel (.int .i64 q)))), (20, (.one (.cel (.int .i64 (((List.length l) : Nat) : Int))))), (19, (.one (.cel (.row 0)))), (9, (.one (.cel (.int .i64 w)))), (8, (.one (.cel (.int .i64 (List.getD u (Int.toNat i) (0 : Int)))))), (18, (.one (.cel (.int .i64 (List.getD u (Int.toNat i) (0 : Int)))))), (17, (.one (.cel (.elt 4 i 1 0)))), (16, (.one (.cel (.bool (decide (i < (((List.length u) : Nat) : Int))))))), (15, (.one (.cel (.int .i64 i)))), (14, (.one (.cel (.int .i64 (((List.length u) : Nat) : Int))))), (13, (.one (.cel (.row 4)))), (6, (.one (.cel (.bool Bool.false)))), (5, (.one (.cel (.ptr 0 0)))), (0, (.one (.cel (.row 0)))), (1, (.one (.cel (.row 1))))], [[(.row 2), (.row 3), (.row 4)]], [⟨(.ints .i64 l), none⟩, ⟨(.ints .i64 k), none⟩, ⟨(.ints .i64 j), none⟩, ⟨(.ints .i64 d), none⟩, ⟨(.ints .i64 u), none⟩], 0⟩
def spared_L2_I (l : List Int) (k : List Int) (j : List Int) (d : List Int) (u : List Int) (i : Int) (q : Int) (w : Int) : Prop := (0 ≤ q ∧ q ≤ l.length) ∧ (w = lidx (fun x => decide (l.getD x 0 + mvd j x < u.getD i.toNat 0)) q.toNat) ∧ (i < u.length)
def spared_L2_m (l : List Int) (k : List Int) (j : List Int) (d : List Int) (u : List Int) (i : Int) (q : Int) (w : Int) : Nat := (l.length - q).toNat
def spared_L2_N (l : List Int) (k : List Int) (j : List Int) (d : List Int) (u : List Int) (i : Int) (q' : Int) (w' : Int) (st_ : St) : Prop := getI st_ 21 fun q => getI st_ 9 fun w => spared_L2_I l k j d u i q w ∧ spared_L2_m l k j d u i q w < spared_L2_m l k j d u i q' w' ∧ SubA st_ (spared_L2_F l k j d u i q w)
def spared_L2_E (l : List Int) (k : List Int) (j : List Int) (d : List Int) (u : List Int) (i : Int) (st_ : St) : Prop := getI st_ 21 fun q => getI st_ 9 fun w => spared_L2_I l k j d u i q w ∧ SubA st_ (spared_L2_F l k j d u i q w)
def spared_L2_S1 (l : List Int) (k : List Int) (j : List Int) (d : List Int) (u : List Int) (i : Int) : St := ⟨73, [], [(21, (.one (.cel (.int .i64 (0 : Int))))), (20, (.one (.cel (.int .i64 (((List.length l) : Nat) : Int))))), (19, (.one (.cel (.row 0)))), (9, (.one (.cel (.int .i64 (-(1 : Int)))))), (8, (.one (.cel (.int .i64 (List.getD u (Int.toNat i) (0 : Int)))))), (18, (.one (.cel (.int .i64 (List.getD u (Int.toNat i) (0 : Int)))))), (17, (.one (.cel (.elt 4 i 1 0)))), (16, (.one (.cel (.bool (decide (i < (((List.length u) : Nat) : Int))))))), (15, (.one (.cel (.int .i64 i)))), (14, (.one (.cel (.int .i64 (((List.length u) : Nat) : Int))))), (13, (.one (.cel (.row 4)))), (6, (.one (.cel (.bool Bool.false)))), (5, (.one (.cel (.ptr 0 0)))), (0, (.one (.cel (.row 0)))), (1, (.one (.cel (.row 1))))], [[(.row 2), (.row 3), (.row 4)]], [⟨(.ints .i64 l), none⟩, ⟨(.ints .i64 k), none⟩, ⟨(.ints .i64 j), none⟩, ⟨(.ints .i64 d), none⟩, ⟨(.ints .i64 u), none⟩], 0⟩
def spared_L2_T (l : List Int) (k : List Int) (j : List Int) (d : List Int) (u : List Int) (i : Int) (q : Int) (w : Int) : Prop := (cnd (decide (q < (((List.length l) : Nat) : Int)))
  (cnd (decide ((0 : Int) ≤ q))
    (cnd (decide (q < (((List.length l) : Nat) : Int)))
      (cnd (decide ((0 : Int) ≤ q))
        (cnd (decide ((Go.IntKind.wrap Go.IntKind.i64 ((List.getD l (Int.toNat q) (0 : Int)) + (mvd j q))) < (List.getD u (Int.toNat i) (0 : Int))))
          ((spared_L2_I l k j d u i (Go.IntKind.wrap Go.IntKind.i64 (q + (1 : Int))) q) ∧ (((spared_L2_m l k j d u i (Go.IntKind.wrap Go.IntKind.i64 (q + (1 : Int))) q) < (spared_L2_m l k j d u i q w)) ∧ (((Go.IntKind.wrap Go.IntKind.i64 (q + (1 : Int))) = (Go.IntKind.wrap Go.IntKind.i64 (q + (1 : Int)))) ∧ (((((List.length l) : Nat) : Int) = (((List.length l) : Nat) : Int)) ∧ (True ∧ ((q = q) ∧ (((List.getD u (Int.toNat i) (0 : Int)) = (List.getD u (Int.toNat i) (0 : Int))) ∧ (((List.getD u (Int.toNat i) (0 : Int)) = (List.getD u (Int.toNat i) (0 : Int))) ∧ ((i = i) ∧ (((decide (i < (((List.length u) : Nat) : Int))) = (decide (i < (((List.length u) : Nat) : Int)))) ∧ ((i = i) ∧ (((((List.length u) : Nat) : Int) = (((List.length u) : Nat) : Int)) ∧ (True ∧ ((Bool.false = Bool.false) ∧ (True ∧ (True ∧ (True ∧ ((True ∧ (True ∧ True)) ∧ ((l = l) ∧ ((k = k) ∧ ((j = j) ∧ ((d = d) ∧ ((u = u) ∧ True)))))))))))))))))))))))
          ((spared_L2_I l k j d u i (Go.IntKind.wrap Go.IntKind.i64 (q + (1 : Int))) w) ∧ (((spared_L2_m l k j d u i (Go.IntKind.wrap Go.IntKind.i64 (q + (1 : Int))) w) < (spared_L2_m l k j d u i q w)) ∧ (((Go.IntKind.wrap Go.IntKind.i64 (q + (1 : Int))) = (Go.IntKind.wrap Go.IntKind.i64 (q + (1 : Int)))) ∧ (((((List.length l) : Nat) : Int) = (((List.length l) : Nat) : Int)) ∧ (True ∧ ((w = w) ∧ (((List.getD u (Int.toNat i) (0 : Int)) = (List.getD u (Int.toNat i) (0 : Int))) ∧ (((List.getD u (Int.toNat i) (0 : Int)) = (List.getD u (Int.toNat i) (0 : Int))) ∧ ((i = i) ∧ (((decide (i < (((List.length u) : Nat) : Int))) = (decide (i < (((List.length u) : Nat) : Int)))) ∧ ((i = i) ∧ (((((List.length u) : Nat) : Int) = (((List.length u) : Nat) : Int)) ∧ (True ∧ ((Bool.false = Bool.false) ∧ (True ∧ (True ∧ (True ∧ ((True ∧ (True ∧ True)) ∧ ((l = l) ∧ ((k = k) ∧ ((j = j) ∧ ((d = d) ∧ ((u = u) ∧ True))))))))))))))))))))))))
        False)
      False)
    False)
  (cnd ((!(((decide (w < (1 : Int))) || (decide ((((List.length k) : Nat) : Int) ≤ w))) == Bool.false)) || (decide ((0 : Int) ≤ w)))
    (cnd ((!(((decide (w < (1 : Int))) || (decide ((((List.length k) : Nat) : Int) ≤ w))) == Bool.false)) || (decide (w < (((List.length l) : Nat) : Int))))
      (cnd ((!(((decide (w < (1 : Int))) || (decide ((((List.length k) : Nat) : Int) ≤ w))) == Bool.false)) || (decide ((0 : Int) ≤ w)))
        (cnd ((!(((decide (w < (1 : Int))) || (decide ((((List.length k) : Nat) : Int) ≤ w))) == Bool.false)) || (decide ((0 : Int) ≤ w)))
          (cnd ((!(((decide (w < (1 : Int))) || (decide ((((List.length k) : Nat) : Int) ≤ w))) == Bool.false)) || (decide (w < (((List.length k) : Nat) : Int))))
            (cnd ((!(((decide (w < (1 : Int))) || (decide ((((List.length k) : Nat) : Int) ≤ w))) == Bool.false)) || (decide ((0 : Int) ≤ (Go.IntKind.wrap Go.IntKind.i64 (w + (1 : Int))))))
              (cnd ((!(((decide (w < (1 : Int))) || (decide ((((List.length k) : Nat) : Int) ≤ w))) == Bool.false)) || (decide ((Go.IntKind.wrap Go.IntKind.i64 (w + (1 : Int))) < (((List.length l) : Nat) : Int))))
                (cnd ((!(((decide (w < (1 : Int))) || (decide ((((List.length k) : Nat) : Int) ≤ w))) == Bool.false)) || (decide ((0 : Int) ≤ w)))
                  (cnd ((!(((decide (w < (1 : Int))) || (decide ((((List.length k) : Nat) : Int) ≤ w))) == Bool.false)) || (decide (w < (((List.length l) : Nat) : Int))))
                    (cnd (((decide (w < (1 : Int))) || (decide ((((List.length k) : Nat) : Int) ≤ w))) || (decide ((Go.IntKind.wrap Go.IntKind.i64 ((List.getD l (Int.toNat (Go.IntKind.wrap Go.IntKind.i64 (w + (1 : Int)))) (0 : Int)) - (List.getD l (Int.toNat w) (0 : Int)))) ≤ (Go.IntKind.wrap Go.IntKind.i64 ((Go.IntKind.wrap Go.IntKind.i64 ((8 : Int) * (Go.IntKind.wrap Go.IntKind.i64 ((Go.IntKind.wrap Go.IntKind.i64 ((List.getD u (Int.toNat i) (0 : Int)) - (List.getD l (Int.toNat w) (0 : Int)))) - (mvd j w))))) * (List.getD k (Int.toNat w) (0 : Int)))))))
                      (Bool.false = (List.all u (sparP l k j)))
                      ((spared_L1_I l k j d u (Go.IntKind.wrap Go.IntKind.i64 (i + (1 : Int)))) ∧ (((spared_L1_m l k j d u (Go.IntKind.wrap Go.IntKind.i64 (i + (1 : Int)))) < (spared_L1_m l k j d u i)) ∧ (((Go.IntKind.wrap Go.IntKind.i64 (i + (1 : Int))) = (Go.IntKind.wrap Go.IntKind.i64 (i + (1 : Int)))) ∧ (((((List.length u) : Nat) : Int) = (((List.length u) : Nat) : Int)) ∧ (True ∧ ((Bool.false = Bool.false) ∧ (True ∧ (True ∧ (True ∧ ((True ∧ (True ∧ True)) ∧ ((l = l) ∧ ((k = k) ∧ ((j = j) ∧ ((d = d) ∧ ((u = u) ∧ True))))))))))))))))
                    False)
                  False)
                False)
              False)
            False)
          False)
        False)
      False)
    False))
set_option maxRecDepth 100000 in
theorem spared_L2_tree (l : List Int) (k : List Int) (j : List Int) (d : List Int) (u : List Int) (i : Int) (q : Int) (w : Int) : spared_L2_T l k j d u i q w = ex Try.prog (conOf [moved_e]) (subC (subC (bodyOf Try.f47) [1, 0, 1, 0, 0]) [1, 1, 0, 0, 1, 1, 0, 1, 0, 0]) (nextE (spared_L2_N l k j d u i q w) (kont Try.prog (conOf [moved_e]) (subC (bodyOf Try.f47) [1, 0, 1, 0, 0]) [1, 1, 0, 0, 1, 1, 0, 1, 0] (nextE (spared_L1_N l k j d u i) (kont Try.prog (conOf [moved_e]) (bodyOf Try.f47) [1, 0, 1, 0] (retPost Try.prog Try.f47 5 (spared_res l k j d u)))))) (spared_L2_F l k j d u i q w) := by kernel_rfl
set_option maxRecDepth 100000 in
theorem spared_L2_round (l : List Int) (k : List Int) (j : List Int) (d : List Int) (u : List Int) (i : Int) (q : Int) (w : Int) (p0 : (vE l) = true) (p1 : (decide (k.length = l.length - 1)) = true) (p2 : (k.all (fun x => decide (0 ≤ x) && decide (x ≤ 120))) = true) (p3 : (j.all isJ) = true) (p4 : (u.all isT) = true) (p5 : (decide (u.length ≤ 1000)) = true) (hI_L1 : spared_L1_I l k j d u i) (hI_L2 : spared_L2_I l k j d u i q w) : spared_L2_T l k j d u i q w := by
  obtain ⟨⟨a1, a2⟩, a3⟩ := hI_L1
  obtain ⟨⟨b1, b2⟩, b3, b4⟩ := hI_L2
  obtain ⟨v1, v2, v3⟩ := vE_iff.1 p0
  simp only [decide_eq_true_eq] at p1 p5
  have hs := isT_iff.1 (all_get p4 (j := i.toNat) (by omega))
  rw [drop_consI a1 b4, List.all_cons] at a3
  have hw := lidx_bd (fun x => decide (l.getD x 0 + mvd j x < u.getD i.toNat 0)) q.toNat
  rw [← b3] at hw
  have hF : ∀ q' w' : Int, 0 ≤ q' ∧ q' ≤ l.length → w' = lidx (fun x => decide (l.getD x 0 + mvd j x < u.getD i.toNat 0)) q'.toNat → spared_L2_I l k j d u i q' w' := fun _ _ h1 h2 => ⟨h1, h2, b4⟩
  have hμ : ∀ w', q < l.length → spared_L2_m l k j d u i (q + 1) w' < spared_L2_m l k j d u i q w := fun _ h => by unfold spared_L2_m; omega
  have hG : sparP l k j (u.getD i.toNat 0) = true → spared_L1_I l k j d u (i + 1) := fun h => ⟨⟨by omega, by omega⟩, by rw [a3, h, show (i + 1).toNat = i.toNat + 1 by omega]; rfl⟩
  have hν : spared_L1_m l k j d u (i + 1) < spared_L1_m l k j d u i := by unfold spared_L1_m; omega
  have hN : sparP l k j (u.getD i.toNat 0) = false → u.all (sparP l k j) = false := fun h => by rw [a3, h]; rfl
  unfold spared_L2_T
  generalize u.getD i.toNat 0 = s at *
  by_cases hq : q < l.length
  · have t0 := isT_iff.1 (all_get v2 (j := q.toNat) (by omega))
    have hJ := isJ_iff.1 (mvd_J p3 q)
    have hl : lidx (fun x => decide (l.getD x 0 + mvd j x < s)) (q + 1).toNat = if decide (l.getD q.toNat 0 + mvd j q < s) then q else w := by
      rw [show (q + 1).toNat = q.toNat + 1 by omega, lidx, ← b3, show ((q.toNat : Nat) : Int) = q by omega]
    rw [decide_eq_true hq, decide_eq_true b1, w64 (n := q + 1) (by omega) (by omega), w64 (n := l.getD q.toNat 0 + mvd j q) (by omega) (by omega)]
    by_cases hc : l.getD q.toNat 0 + mvd j q < s
    · rw [decide_eq_true hc] at hl ⊢
      exact ⟨hF _ _ ⟨by omega, by omega⟩ hl.symm, hμ _ hq, by simp⟩
    · rw [decide_eq_false hc] at hl ⊢
      exact ⟨hF _ _ ⟨by omega, by omega⟩ hl.symm, hμ _ hq, by simp⟩
  · have hI : w = sparI l j s := by unfold sparI; rw [b3, show q.toNat = l.length by omega]
    have hP : sparP l k j s = (decide (1 ≤ w) && decide (w < k.length) && decide (8 * (s - l.getD w.toNat 0 - mvd j w) * k.getD w.toNat 0 < l.getD (w.toNat + 1) 0 - l.getD w.toNat 0)) := by
      unfold sparP
      rw [← hI]
    rw [decide_eq_false hq]
    by_cases hc : 1 ≤ w ∧ w < k.length
    · have t0 := isT_iff.1 (all_get v2 (j := w.toNat) (by omega))
      have t1 := isT_iff.1 (all_get v2 (j := w.toNat + 1) (by omega))
      have hJ := isJ_iff.1 (mvd_J p3 w)
      have hk := k_bd p2 (j := w.toNat) (by omega)
      have hm : -(32 * 1099511627776) * 120 ≤ 8 * (s - l.getD w.toNat 0 - mvd j w) * k.getD w.toNat 0 ∧ 8 * (s - l.getD w.toNat 0 - mvd j w) * k.getD w.toNat 0 ≤ 32 * 1099511627776 * 120 := by
        have h1 := Int.mul_le_mul_of_nonneg_right (show 8 * (s - l.getD w.toNat 0 - mvd j w) ≤ 32 * 1099511627776 by omega) hk.1
        have h2 := Int.mul_le_mul_of_nonneg_right (show -(32 * 1099511627776) ≤ 8 * (s - l.getD w.toNat 0 - mvd j w) by omega) hk.1
        generalize 8 * (s - l.getD w.toNat 0 - mvd j w) * k.getD w.toNat 0 = z at *
        omega
      rw [decide_eq_false (show ¬ w < 1 by omega), decide_eq_false (show ¬ (k.length : Int) ≤ w by omega), w64 (n := w + 1) (by omega) (by omega), show (w + 1).toNat = w.toNat + 1 by omega, w64 (n := i + 1) (by omega) (by omega), w64 (n := l.getD (w.toNat + 1) 0 - l.getD w.toNat 0) (by omega) (by omega), w64 (n := s - l.getD w.toNat 0) (by omega) (by omega), w64 (n := s - l.getD w.toNat 0 - mvd j w) (by omega) (by omega), w64 (n := 8 * (s - l.getD w.toNat 0 - mvd j w)) (by omega) (by omega), w64 (n := 8 * (s - l.getD w.toNat 0 - mvd j w) * k.getD w.toNat 0) (by omega) (by omega), decide_eq_true (show 0 ≤ w by omega), decide_eq_true (show w < (l.length : Int) by omega), decide_eq_true (show w < (k.length : Int) by omega), decide_eq_true (show 0 ≤ w + 1 by omega), decide_eq_true (show w + 1 < (l.length : Int) by omega)]
      rw [decide_eq_true hc.1, decide_eq_true hc.2, Bool.true_and, Bool.true_and] at hP
      by_cases hd : 8 * (s - l.getD w.toNat 0 - mvd j w) * k.getD w.toNat 0 < l.getD (w.toNat + 1) 0 - l.getD w.toNat 0
      · rw [decide_eq_false (show ¬ l.getD (w.toNat + 1) 0 - l.getD w.toNat 0 ≤ 8 * (s - l.getD w.toNat 0 - mvd j w) * k.getD w.toNat 0 by omega)]
        exact ⟨hG (by rw [hP, decide_eq_true hd]), hν, by simp⟩
      · rw [decide_eq_true (show l.getD (w.toNat + 1) 0 - l.getD w.toNat 0 ≤ 8 * (s - l.getD w.toNat 0 - mvd j w) * k.getD w.toNat 0 by omega)]
        exact (hN (by rw [hP, decide_eq_false hd])).symm
    · have hT : (decide (w < 1) || decide ((k.length : Int) ≤ w)) = true := by
        simp only [Bool.or_eq_true, decide_eq_true_eq]; omega
      rw [hT]
      refine (hN ?_).symm
      rw [hP]
      by_cases h1 : 1 ≤ w
      · rw [decide_eq_false (show ¬ w < (k.length : Int) by omega), Bool.and_false, Bool.false_and]
      · rw [decide_eq_false h1, Bool.false_and, Bool.false_and]
set_option maxRecDepth 100000 in
theorem spared_L2_entry1 (l : List Int) (k : List Int) (j : List Int) (d : List Int) (u : List Int) (i : Int) : (((spared_L2_I l k j d u i (0 : Int) (-(1 : Int))) ∧ (((0 : Int) = (0 : Int)) ∧ (((((List.length l) : Nat) : Int) = (((List.length l) : Nat) : Int)) ∧ (True ∧ (((-(1 : Int)) = (-(1 : Int))) ∧ (((List.getD u (Int.toNat i) (0 : Int)) = (List.getD u (Int.toNat i) (0 : Int))) ∧ (((List.getD u (Int.toNat i) (0 : Int)) = (List.getD u (Int.toNat i) (0 : Int))) ∧ ((i = i) ∧ (((decide (i < (((List.length u) : Nat) : Int))) = (decide (i < (((List.length u) : Nat) : Int)))) ∧ ((i = i) ∧ (((((List.length u) : Nat) : Int) = (((List.length u) : Nat) : Int)) ∧ (True ∧ ((Bool.false = Bool.false) ∧ (True ∧ (True ∧ (True ∧ ((True ∧ (True ∧ True)) ∧ ((l = l) ∧ ((k = k) ∧ ((j = j) ∧ ((d = d) ∧ ((u = u) ∧ True))))))))))))))))))))))) = spared_L2_E l k j d u i (spared_L2_S1 l k j d u i) := by kernel_rfl
theorem spared_L2_1 (l : List Int) (k : List Int) (j : List Int) (d : List Int) (u : List Int) (i : Int) (p0 : (vE l) = true) (p1 : (decide (k.length = l.length - 1)) = true) (p2 : (k.all (fun x => decide (0 ≤ x) && decide (x ≤ 120))) = true) (p3 : (j.all isJ) = true) (p4 : (u.all isT) = true) (p5 : (decide (u.length ≤ 1000)) = true) (hI_L1 : spared_L1_I l k j d u i) (h : ((spared_L2_I l k j d u i (0 : Int) (-(1 : Int))) ∧ (((0 : Int) = (0 : Int)) ∧ (((((List.length l) : Nat) : Int) = (((List.length l) : Nat) : Int)) ∧ (True ∧ (((-(1 : Int)) = (-(1 : Int))) ∧ (((List.getD u (Int.toNat i) (0 : Int)) = (List.getD u (Int.toNat i) (0 : Int))) ∧ (((List.getD u (Int.toNat i) (0 : Int)) = (List.getD u (Int.toNat i) (0 : Int))) ∧ ((i = i) ∧ (((decide (i < (((List.length u) : Nat) : Int))) = (decide (i < (((List.length u) : Nat) : Int)))) ∧ ((i = i) ∧ (((((List.length u) : Nat) : Int) = (((List.length u) : Nat) : Int)) ∧ (True ∧ ((Bool.false = Bool.false) ∧ (True ∧ (True ∧ (True ∧ ((True ∧ (True ∧ True)) ∧ ((l = l) ∧ ((k = k) ∧ ((j = j) ∧ ((d = d) ∧ ((u = u) ∧ True))))))))))))))))))))))) : LoopP (ex Try.prog (conOf [moved_e]) (subC (subC (bodyOf Try.f47) [1, 0, 1, 0, 0]) [1, 1, 0, 0, 1, 1, 0, 1, 0, 0])) (kont Try.prog (conOf [moved_e]) (subC (bodyOf Try.f47) [1, 0, 1, 0, 0]) [1, 1, 0, 0, 1, 1, 0, 1, 0] (nextE (spared_L1_N l k j d u i) (kont Try.prog (conOf [moved_e]) (bodyOf Try.f47) [1, 0, 1, 0] (retPost Try.prog Try.f47 5 (spared_res l k j d u))))) (spared_L2_S1 l k j d u i) := by
  have hE : spared_L2_E l k j d u i (spared_L2_S1 l k j d u i) := Eq.mp (spared_L2_entry1 l k j d u i) h
  unfold spared_L2_E at hE
  obtain ⟨q, hE⟩ := getI_of hE
  obtain ⟨w, hE⟩ := getI_of hE
  refine loop_of (α := (Int) × (Int)) (fun xx_ => spared_L2_F l k j d u i xx_.1 xx_.2) (fun xx_ => spared_L2_I l k j d u i xx_.1 xx_.2) (fun xx_ => spared_L2_m l k j d u i xx_.1 xx_.2) (fun xx_ => spared_L2_N l k j d u i xx_.1 xx_.2) (fun xx_ => spared_L2_T l k j d u i xx_.1 xx_.2) (fun xx_ s_ h => ?_) ⟨⟨q, w⟩, hE⟩ (fun xx_ => spared_L2_tree l k j d u i xx_.1 xx_.2) (fun xx_ hI => spared_L2_round l k j d u i xx_.1 xx_.2 p0 p1 p2 p3 p4 p5 hI_L1 hI)
  unfold spared_L2_N at h
  obtain ⟨q, h⟩ := getI_of h
  obtain ⟨w, h⟩ := getI_of h
  exact ⟨⟨q, w⟩, h⟩
def spared_L1_T (l : List Int) (k : List Int) (j : List Int) (d : List Int) (u : List Int) (i : Int) : Prop := (cnd (decide (i < (((List.length u) : Nat) : Int)))
  (cnd (decide ((0 : Int) ≤ i))
    (cnd (decide (i < (((List.length u) : Nat) : Int)))
      (LoopP (ex Try.prog (conOf [moved_e]) (subC (subC (bodyOf Try.f47) [1, 0, 1, 0, 0]) [1, 1, 0, 0, 1, 1, 0, 1, 0, 0])) (kont Try.prog (conOf [moved_e]) (subC (bodyOf Try.f47) [1, 0, 1, 0, 0]) [1, 1, 0, 0, 1, 1, 0, 1, 0] (nextE (spared_L1_N l k j d u i) (kont Try.prog (conOf [moved_e]) (bodyOf Try.f47) [1, 0, 1, 0] (retPost Try.prog Try.f47 5 (spared_res l k j d u))))) (spared_L2_S1 l k j d u i))
      False)
    False)
  (Bool.true = (List.all u (sparP l k j))))
set_option maxRecDepth 100000 in
theorem spared_L1_tree (l : List Int) (k : List Int) (j : List Int) (d : List Int) (u : List Int) (i : Int) : spared_L1_T l k j d u i = ex Try.prog (conOf [moved_e]) (subC (bodyOf Try.f47) [1, 0, 1, 0, 0]) (nextE (spared_L1_N l k j d u i) (kont Try.prog (conOf [moved_e]) (bodyOf Try.f47) [1, 0, 1, 0] (retPost Try.prog Try.f47 5 (spared_res l k j d u)))) (spared_L1_F l k j d u i) := by kernel_rfl
set_option maxRecDepth 100000 in
theorem spared_L1_round (l : List Int) (k : List Int) (j : List Int) (d : List Int) (u : List Int) (i : Int) (p0 : (vE l) = true) (p1 : (decide (k.length = l.length - 1)) = true) (p2 : (k.all (fun x => decide (0 ≤ x) && decide (x ≤ 120))) = true) (p3 : (j.all isJ) = true) (p4 : (u.all isT) = true) (p5 : (decide (u.length ≤ 1000)) = true) (hI_L1 : spared_L1_I l k j d u i) : spared_L1_T l k j d u i := by
  obtain ⟨⟨a1, a2⟩, a3⟩ := hI_L1
  unfold spared_L1_T
  by_cases hi : i < u.length
  · rw [decide_eq_true hi, decide_eq_true a1]
    exact spared_L2_1 l k j d u i p0 p1 p2 p3 p4 p5 ⟨⟨a1, a2⟩, a3⟩ ⟨⟨⟨by omega, by omega⟩, rfl, hi⟩, by simp⟩
  · rw [decide_eq_false hi]
    rw [List.drop_eq_nil_of_le (by omega)] at a3
    exact a3.symm
set_option maxRecDepth 100000 in
theorem spared_L1_entry1 (l : List Int) (k : List Int) (j : List Int) (d : List Int) (u : List Int) : (((spared_L1_I l k j d u (0 : Int)) ∧ (((0 : Int) = (0 : Int)) ∧ (((((List.length u) : Nat) : Int) = (((List.length u) : Nat) : Int)) ∧ (True ∧ ((Bool.false = Bool.false) ∧ (True ∧ (True ∧ (True ∧ ((True ∧ (True ∧ True)) ∧ ((l = l) ∧ ((k = k) ∧ ((j = j) ∧ ((d = d) ∧ ((u = u) ∧ True))))))))))))))) = spared_L1_E l k j d u (spared_L1_S1 l k j d u) := by kernel_rfl
theorem spared_L1_1 (l : List Int) (k : List Int) (j : List Int) (d : List Int) (u : List Int) (p0 : (vE l) = true) (p1 : (decide (k.length = l.length - 1)) = true) (p2 : (k.all (fun x => decide (0 ≤ x) && decide (x ≤ 120))) = true) (p3 : (j.all isJ) = true) (p4 : (u.all isT) = true) (p5 : (decide (u.length ≤ 1000)) = true) (h : ((spared_L1_I l k j d u (0 : Int)) ∧ (((0 : Int) = (0 : Int)) ∧ (((((List.length u) : Nat) : Int) = (((List.length u) : Nat) : Int)) ∧ (True ∧ ((Bool.false = Bool.false) ∧ (True ∧ (True ∧ (True ∧ ((True ∧ (True ∧ True)) ∧ ((l = l) ∧ ((k = k) ∧ ((j = j) ∧ ((d = d) ∧ ((u = u) ∧ True))))))))))))))) : LoopP (ex Try.prog (conOf [moved_e]) (subC (bodyOf Try.f47) [1, 0, 1, 0, 0])) (kont Try.prog (conOf [moved_e]) (bodyOf Try.f47) [1, 0, 1, 0] (retPost Try.prog Try.f47 5 (spared_res l k j d u))) (spared_L1_S1 l k j d u) := by
  have hE : spared_L1_E l k j d u (spared_L1_S1 l k j d u) := Eq.mp (spared_L1_entry1 l k j d u) h
  unfold spared_L1_E at hE
  obtain ⟨i, hE⟩ := getI_of hE
  refine loop_of (α := (Int)) (fun xx_ => spared_L1_F l k j d u xx_) (fun xx_ => spared_L1_I l k j d u xx_) (fun xx_ => spared_L1_m l k j d u xx_) (fun xx_ => spared_L1_N l k j d u xx_) (fun xx_ => spared_L1_T l k j d u xx_) (fun xx_ s_ h => ?_) ⟨i, hE⟩ (fun xx_ => spared_L1_tree l k j d u xx_) (fun xx_ hI => spared_L1_round l k j d u xx_ p0 p1 p2 p3 p4 p5 hI)
  unfold spared_L1_N at h
  obtain ⟨i, h⟩ := getI_of h
  exact ⟨i, h⟩
set_option maxRecDepth 100000 in
theorem spared_tree (l : List Int) (k : List Int) (j : List Int) (d : List Int) (u : List Int) : ((LoopP (ex Try.prog (conOf [moved_e]) (subC (bodyOf Try.f47) [1, 0, 1, 0, 0])) (kont Try.prog (conOf [moved_e]) (bodyOf Try.f47) [1, 0, 1, 0] (retPost Try.prog Try.f47 5 (spared_res l k j d u))) (spared_L1_S1 l k j d u))) = EXD Try.prog (conOf [moved_e]) Try.f47 [.cel (.row 0), .cel (.row 1), .agg [.row 2, .row 3, .row 4]] [.ints .i64 l, .ints .i64 k, .ints .i64 j, .ints .i64 d, .ints .i64 u] [] (spared_res l k j d u) := by kernel_rfl
theorem spared_holds (l : List Int) (k : List Int) (j : List Int) (d : List Int) (u : List Int) (p0 : (vE l) = true) (p1 : (decide (k.length = l.length - 1)) = true) (p2 : (k.all (fun x => decide (0 ≤ x) && decide (x ≤ 120))) = true) (p3 : (j.all isJ) = true) (p4 : (u.all isT) = true) (p5 : (decide (u.length ≤ 1000)) = true) : (LoopP (ex Try.prog (conOf [moved_e]) (subC (bodyOf Try.f47) [1, 0, 1, 0, 0])) (kont Try.prog (conOf [moved_e]) (bodyOf Try.f47) [1, 0, 1, 0] (retPost Try.prog Try.f47 5 (spared_res l k j d u))) (spared_L1_S1 l k j d u)) := by
  exact spared_L1_1 l k j d u p0 p1 p2 p3 p4 p5 ⟨⟨⟨by omega, by omega⟩, rfl⟩, by simp⟩
set_option maxHeartbeats 2000000 in
theorem spared_ok : SoundEnt Try.prog spared_e := by
  refine ent_of_ex (Γ := (conOf [moved_e])) (conOf_sound (scons moved_ok snil)) (by kernel_rfl) Try.func47 (by kernel_rfl) (by kernel_rfl) (fun args rows caps res h ho => ?_)
  change spared_go args rows caps = some res at h
  unfold spared_go at h
  split at h
  · simp only [Option.some.injEq] at h
    subst h
    rename_i q0_ q1_ q2_ q3_ q4_
    obtain ⟨p0, p1, p2, p3, p4, p5, _⟩ := ho
    exact EX.of (spared_tree q0_ q1_ q2_ q3_ q4_) (spared_holds q0_ q1_ q2_ q3_ q4_ p0 p1 p2 p3 p4 p5)
  · cases h
def steady_res (l : List Int) (s : Int) (m : List (List Int)) : CRes := ⟨[vE l, mValid s m], .one (.cel (.bool (stdB l m))), []⟩
def steady_go : List TV → List RowA → List (List CV) → Option CRes := fun args rows caps =>
  match args, rows, caps with
  | [.cel (.row 0), .agg [.int .i64 s, .row 1]], [.ints .i64 l, .recs [.int .i64, .int .i64] m], [] => some (steady_res l s m)
  | _, _, _ => none
def steady_e : Ent := ⟨48, [.ints .i64 [], .recs [.int .i64, .int .i64] []], steady_go⟩
def steady_L1_F (l : List Int) (s : Int) (m : List (List Int)) (i : Int) : St := ⟨41, [], [(5, (.one (.cel (.int .i64 i)))), (4, (.one (.cel (.bool Bool.false)))), (3, (.one (.cel (.ptr 0 0)))), (0, (.one (.cel (.row 0))))], [[(.int .i64 s), (.row 1)]], [⟨(.ints .i64 l), none⟩, ⟨(.recs [.int .i64, .int .i64] m), none⟩], 0⟩
def steady_L1_I (l : List Int) (s : Int) (m : List (List Int)) (i : Int) : Prop := (1 ≤ i ∧ i ≤ 1001) ∧ (allB (stdP l m) i.toNat = true)
def steady_L1_m (l : List Int) (s : Int) (m : List (List Int)) (i : Int) : Nat := (1001 - i).toNat
def steady_L1_N (l : List Int) (s : Int) (m : List (List Int)) (i' : Int) (st_ : St) : Prop := getI st_ 5 fun i => steady_L1_I l s m i ∧ steady_L1_m l s m i < steady_L1_m l s m i' ∧ SubA st_ (steady_L1_F l s m i)
def steady_L1_E (l : List Int) (s : Int) (m : List (List Int)) (st_ : St) : Prop := getI st_ 5 fun i => steady_L1_I l s m i ∧ SubA st_ (steady_L1_F l s m i)
def steady_L1_S1 (l : List Int) (s : Int) (m : List (List Int)) : St := ⟨41, [], [(5, (.one (.cel (.int .i64 (1 : Int))))), (4, (.one (.cel (.bool Bool.false)))), (3, (.one (.cel (.ptr 0 0)))), (0, (.one (.cel (.row 0)))), (1, (.one (.agg [(.int .i64 s), (.row 1)])))], [[(.int .i64 s), (.row 1)]], [⟨(.ints .i64 l), none⟩, ⟨(.recs [.int .i64, .int .i64] m), none⟩], 0⟩
def steady_L1_T (l : List Int) (s : Int) (m : List (List Int)) (i : Int) : Prop := (cnd (decide ((Go.IntKind.wrap Go.IntKind.i64 (i + (1 : Int))) < (((List.length l) : Nat) : Int)))
  (cnd (decide ((0 : Int) ≤ (Go.IntKind.wrap Go.IntKind.i64 (i - (1 : Int)))))
    (cnd (decide ((Go.IntKind.wrap Go.IntKind.i64 (i - (1 : Int))) < (((List.length l) : Nat) : Int)))
      (cnd (decide ((0 : Int) ≤ (Go.IntKind.wrap Go.IntKind.i64 (i + (1 : Int)))))
        (cnd (decide ((Go.IntKind.wrap Go.IntKind.i64 (i + (1 : Int))) < (((List.length l) : Nat) : Int)))
          (cnd (mValid s m)
            (cnd ((decide ((lsI m (gmax (0 : Int) (Go.IntKind.wrap Go.IntKind.i64 ((List.getD l (Int.toNat (Go.IntKind.wrap Go.IntKind.i64 (i - (1 : Int)))) (0 : Int)) - (1 : Int)))) (List.getD l (Int.toNat (Go.IntKind.wrap Go.IntKind.i64 (i + (1 : Int)))) (0 : Int))) = (0 : Int))) || (decide ((Go.IntKind.wrap Go.IntKind.i64 ((17 : Int) * (lsI m (gmax (0 : Int) (Go.IntKind.wrap Go.IntKind.i64 ((List.getD l (Int.toNat (Go.IntKind.wrap Go.IntKind.i64 (i - (1 : Int)))) (0 : Int)) - (1 : Int)))) (List.getD l (Int.toNat (Go.IntKind.wrap Go.IntKind.i64 (i + (1 : Int)))) (0 : Int))))) < (Go.IntKind.wrap Go.IntKind.i64 ((16 : Int) * (grI m (gmax (0 : Int) (Go.IntKind.wrap Go.IntKind.i64 ((List.getD l (Int.toNat (Go.IntKind.wrap Go.IntKind.i64 (i - (1 : Int)))) (0 : Int)) - (1 : Int)))) (List.getD l (Int.toNat (Go.IntKind.wrap Go.IntKind.i64 (i + (1 : Int)))) (0 : Int))))))))
              (Bool.false = (stdB l m))
              ((steady_L1_I l s m (Go.IntKind.wrap Go.IntKind.i64 (i + (1 : Int)))) ∧ (((steady_L1_m l s m (Go.IntKind.wrap Go.IntKind.i64 (i + (1 : Int)))) < (steady_L1_m l s m i)) ∧ (((Go.IntKind.wrap Go.IntKind.i64 (i + (1 : Int))) = (Go.IntKind.wrap Go.IntKind.i64 (i + (1 : Int)))) ∧ ((Bool.false = Bool.false) ∧ (True ∧ (True ∧ (((s = s) ∧ True) ∧ ((l = l) ∧ ((m = m) ∧ True))))))))))
            False)
          False)
        False)
      False)
    False)
  (Bool.true = (stdB l m)))
set_option maxRecDepth 100000 in
theorem steady_L1_tree (l : List Int) (s : Int) (m : List (List Int)) (i : Int) : steady_L1_T l s m i = ex Try.prog (conOf [extremes_e]) (subC (bodyOf Try.f48) [1, 0, 1, 0, 0]) (nextE (steady_L1_N l s m i) (kont Try.prog (conOf [extremes_e]) (bodyOf Try.f48) [1, 0, 1, 0] (retPost Try.prog Try.f48 2 (steady_res l s m)))) (steady_L1_F l s m i) := by kernel_rfl
set_option maxRecDepth 100000 in
theorem steady_L1_round (l : List Int) (s : Int) (m : List (List Int)) (i : Int) (p0 : (vE l) = true) (p1 : (mValid s m) = true) (hI_L1 : steady_L1_I l s m i) : steady_L1_T l s m i := by
  obtain ⟨⟨a1, a2⟩, a3⟩ := hI_L1
  obtain ⟨v1, v2, v3⟩ := vE_iff.1 p0
  have hF : i ≤ 1000 → stdP l m i.toNat = true → steady_L1_I l s m (i + 1) := fun h1 h2 => ⟨⟨by omega, by omega⟩, by rw [show (i + 1).toNat = i.toNat + 1 by omega, allB, a3, h2]; rfl⟩
  have hμ : i ≤ 1000 → steady_L1_m l s m (i + 1) < steady_L1_m l s m i := fun h => by unfold steady_L1_m; omega
  unfold steady_L1_T
  rw [w64 (n := i + 1) (by omega) (by omega), w64 (n := i - 1) (by omega) (by omega)]
  by_cases hi : i + 1 < l.length
  · have t0 := isT_iff.1 (all_get v2 (j := i.toNat - 1) (by omega))
    have t1 := isT_iff.1 (all_get v2 (j := i.toNat + 1) (by omega))
    have l0 := incr_get (j := i.toNat - 1) v3 (by omega)
    have l1 := incr_get (j := i.toNat) v3 (by omega)
    rw [show i.toNat - 1 + 1 = i.toNat by omega] at l0
    rw [decide_eq_true hi, decide_eq_true (show 0 ≤ i - 1 by omega), decide_eq_true (show i - 1 < (l.length : Int) by omega), decide_eq_true (show 0 ≤ i + 1 by omega), show (i - 1).toNat = i.toNat - 1 by omega, show (i + 1).toNat = i.toNat + 1 by omega, w64 (n := l.getD (i.toNat - 1) 0 - 1) (by omega) (by omega), p1]
    have hP : stdP l m i.toNat = (!decide (lsI m (max 0 (l.getD (i.toNat - 1) 0 - 1)) (l.getD (i.toNat + 1) 0) = 0) && decide (16 * grI m (max 0 (l.getD (i.toNat - 1) 0 - 1)) (l.getD (i.toNat + 1) 0) ≤ 17 * lsI m (max 0 (l.getD (i.toNat - 1) 0 - 1)) (l.getD (i.toNat + 1) 0))) := by
      unfold stdP
      rw [decide_eq_false (show ¬ i.toNat = 0 by omega), Bool.false_or]
    have hg : gmax 0 (l.getD (i.toNat - 1) 0 - 1) = max 0 (l.getD (i.toNat - 1) 0 - 1) := by unfold gmax; omega
    rw [hg]
    obtain ⟨⟨q1, q2⟩, q3, q4⟩ := lg_bd (a := max 0 (l.getD (i.toNat - 1) 0 - 1)) (b := l.getD (i.toNat + 1) 0) p1 (by omega) (by omega)
    have hN : stdP l m i.toNat = false → stdB l m = false := fun h => allB_no (i := i.toNat) (by omega) h
    generalize lsI m (max 0 (l.getD (i.toNat - 1) 0 - 1)) (l.getD (i.toNat + 1) 0) = x at *
    generalize grI m (max 0 (l.getD (i.toNat - 1) 0 - 1)) (l.getD (i.toNat + 1) 0) = y at *
    rw [w64 (n := 17 * x) (by omega) (by omega), w64 (n := 16 * y) (by omega) (by omega)]
    change cnd (decide (x = 0) || decide (17 * x < 16 * y)) _ _
    refine cnd_i (fun hc => ?_) (fun hc => ?_)
    · refine (hN ?_).symm
      rw [hP]
      simp only [Bool.or_eq_true, decide_eq_true_eq] at hc
      rcases hc with hc | hc
      · rw [decide_eq_true hc]; rfl
      · rw [decide_eq_false (show ¬ 16 * y ≤ 17 * x by omega), Bool.and_false]
    · simp only [Bool.or_eq_false_iff, decide_eq_false_iff_not] at hc
      refine ⟨hF (by omega) ?_, hμ (by omega), by simp⟩
      rw [hP, decide_eq_false hc.1, decide_eq_true (show 16 * y ≤ 17 * x by omega)]
      rfl
  · rw [decide_eq_false hi]
    show true = stdB l m
    refine (allB_iff.2 fun n hn => ?_).symm
    exact allB_iff.1 a3 n (by omega)
set_option maxRecDepth 100000 in
theorem steady_L1_entry1 (l : List Int) (s : Int) (m : List (List Int)) : (((steady_L1_I l s m (1 : Int)) ∧ (((1 : Int) = (1 : Int)) ∧ ((Bool.false = Bool.false) ∧ (True ∧ (True ∧ (((s = s) ∧ True) ∧ ((l = l) ∧ ((m = m) ∧ True))))))))) = steady_L1_E l s m (steady_L1_S1 l s m) := by kernel_rfl
theorem steady_L1_1 (l : List Int) (s : Int) (m : List (List Int)) (p0 : (vE l) = true) (p1 : (mValid s m) = true) (h : ((steady_L1_I l s m (1 : Int)) ∧ (((1 : Int) = (1 : Int)) ∧ ((Bool.false = Bool.false) ∧ (True ∧ (True ∧ (((s = s) ∧ True) ∧ ((l = l) ∧ ((m = m) ∧ True))))))))) : LoopP (ex Try.prog (conOf [extremes_e]) (subC (bodyOf Try.f48) [1, 0, 1, 0, 0])) (kont Try.prog (conOf [extremes_e]) (bodyOf Try.f48) [1, 0, 1, 0] (retPost Try.prog Try.f48 2 (steady_res l s m))) (steady_L1_S1 l s m) := by
  have hE : steady_L1_E l s m (steady_L1_S1 l s m) := Eq.mp (steady_L1_entry1 l s m) h
  unfold steady_L1_E at hE
  obtain ⟨i, hE⟩ := getI_of hE
  refine loop_of (α := (Int)) (fun xx_ => steady_L1_F l s m xx_) (fun xx_ => steady_L1_I l s m xx_) (fun xx_ => steady_L1_m l s m xx_) (fun xx_ => steady_L1_N l s m xx_) (fun xx_ => steady_L1_T l s m xx_) (fun xx_ s_ h => ?_) ⟨i, hE⟩ (fun xx_ => steady_L1_tree l s m xx_) (fun xx_ hI => steady_L1_round l s m xx_ p0 p1 hI)
  unfold steady_L1_N at h
  obtain ⟨i, h⟩ := getI_of h
  exact ⟨i, h⟩
set_option maxRecDepth 100000 in
theorem steady_tree (l : List Int) (s : Int) (m : List (List Int)) : ((LoopP (ex Try.prog (conOf [extremes_e]) (subC (bodyOf Try.f48) [1, 0, 1, 0, 0])) (kont Try.prog (conOf [extremes_e]) (bodyOf Try.f48) [1, 0, 1, 0] (retPost Try.prog Try.f48 2 (steady_res l s m))) (steady_L1_S1 l s m))) = EXD Try.prog (conOf [extremes_e]) Try.f48 [.cel (.row 0), .agg [.int .i64 s, .row 1]] [.ints .i64 l, .recs [.int .i64, .int .i64] m] [] (steady_res l s m) := by kernel_rfl
theorem steady_holds (l : List Int) (s : Int) (m : List (List Int)) (p0 : (vE l) = true) (p1 : (mValid s m) = true) : (LoopP (ex Try.prog (conOf [extremes_e]) (subC (bodyOf Try.f48) [1, 0, 1, 0, 0])) (kont Try.prog (conOf [extremes_e]) (bodyOf Try.f48) [1, 0, 1, 0] (retPost Try.prog Try.f48 2 (steady_res l s m))) (steady_L1_S1 l s m)) := by
  exact steady_L1_1 l s m p0 p1 ⟨⟨⟨by omega, by omega⟩, rfl⟩, by simp⟩
set_option maxHeartbeats 2000000 in
theorem steady_ok : SoundEnt Try.prog steady_e := by
  refine ent_of_ex (Γ := (conOf [extremes_e])) (conOf_sound (scons extremes_ok snil)) (by kernel_rfl) Try.func48 (by kernel_rfl) (by kernel_rfl) (fun args rows caps res h ho => ?_)
  change steady_go args rows caps = some res at h
  unfold steady_go at h
  split at h
  · simp only [Option.some.injEq] at h
    subst h
    rename_i q1_ q0_ q2_
    obtain ⟨p0, p1, _⟩ := ho
    exact EX.of (steady_tree q0_ q1_ q2_) (steady_holds q0_ q1_ q2_ p0 p1)
  · cases h
def toE (T M s : Int) (m : List (List Int)) (j d u : List Int) (e : Int) : Int := if crE (wValid T M) s m e = 0 then (if lngB j d u then 5 else if (j.any (fun x => !isJ x)) || (u.any (fun x => !isT x)) then 2 else 0) else crE (wValid T M) s m e
def toB (T M s : Int) (m : List (List Int)) (j d u : List Int) (e : Int) : Bool := decide (toE T M s m j d u e = 0) && decide (d.length = 0) && calmB (crT T M s m e) (spsL T M (crP T M s m e)) j && u.all (sparP (crT T M s m e) (spsL T M (crP T M s m e)) j) && stdB (crT T M s m e) m
theorem any_not {p : Int → Bool} : ∀ l : List Int, l.any (fun x => !p x) = !l.all p
  | [] => rfl
  | x :: l => by rw [List.any_cons, List.all_cons, any_not l]; cases p x <;> simp
theorem edg_head {T M : Int} : ∀ (n : Nat) (p b : Int), 0 < (edg T M n p b).length → (edg T M n p b).getD 0 0 = p
  | 0, p, b, h => by simp [edg] at h
  | n + 1, p, b, h => by
    rw [edg] at h ⊢
    split
    · rfl
    · rename_i h2
      rw [if_neg h2] at h
      simp at h
theorem edg_step {T M : Int} : ∀ (n : Nat) (p b : Int) (j : Nat), j + 1 < (edg T M n p b).length → (edg T M n p b).getD (j + 1) 0 = nxA T M ((edg T M n p b).getD j 0)
  | 0, p, b, j, h => by simp [edg] at h
  | n + 1, p, b, j, h => by
    rw [edg] at h ⊢
    split
    · rename_i h2
      rw [if_pos h2, List.length_cons] at h
      cases j with
      | zero =>
        rw [List.getD_cons_succ, List.getD_cons_zero]
        exact edg_head n _ b (by omega)
      | succ j =>
        rw [List.getD_cons_succ, List.getD_cons_succ]
        exact edg_step n _ b j (by omega)
    · rename_i h2
      rw [if_neg h2] at h
      simp at h
theorem mem_getD {l : List Int} {n : Nat} (h : n < l.length) : l.getD n 0 ∈ l := by
  rw [List.getD_eq_getElem?_getD, List.getElem?_eq_getElem h]
  exact List.getElem_mem _
/-- What is known of the crank's positions and spaces. -/
theorem cr_pos {T M s : Int} {m : List (List Int)} {e : Int} (h : crE (wValid T M) s m e = 0) (hf : fewB s m e = true) : vE (crP T M s m e) = true ∧ (spsL T M (crP T M s m e)).length = (crT T M s m e).length - 1 ∧ (spsL T M (crP T M s m e)).all (fun x => decide (0 ≤ x) && decide (x ≤ 120)) = true := by
  obtain ⟨f1, f2, f3, f4, f5, f6, f7, f8, f9⟩ := cr_facts h hf
  obtain ⟨e1, e2, e3⟩ := eL_spec (b := posOf s m e) f1 f4.1
  obtain ⟨c1, c2, c3⟩ := cr_valid h hf
  obtain ⟨b0, b1, b2, b3⟩ := spc_bd f1
  have hP : crP T M s m e = eL T M s (posOf s m e) := by unfold crP; rw [if_pos h]
  have hv : vE (crP T M s m e) = true := by
    rw [hP]
    refine vE_iff.2 ⟨by omega, ?_, incr_of (e2.imp fun h => by omega)⟩
    rw [List.all_eq_true]
    intro x hx
    have := e1 x hx
    exact isT_iff.2 (by omega)
  refine ⟨hv, by rw [spsL_len, c2, hP], ?_⟩
  obtain ⟨v1, v2, v3⟩ := vE_iff.1 hv
  rw [List.all_eq_true]
  intro x hx
  obtain ⟨n, hn, hx⟩ := List.getElem_of_mem hx
  have hn' := hn
  rw [spsL_len] at hn'
  have hg := spsL_get (T := T) (M := M) (P := crP T M s m e) (j := n) (by omega)
  rw [List.getD_eq_getElem?_getD, List.getElem?_eq_getElem hn, Option.getD_some, hx] at hg
  have hd2 : (crP T M s m e).getD n 0 ∈ eL T M s (posOf s m e) := by
    rw [hP] at hn' ⊢
    exact mem_getD (by omega)
  have hs : (crP T M s m e).getD (n + 1) 0 = nxA T M ((crP T M s m e).getD n 0) := by
    rw [hP]
    exact edg_step _ _ _ n (by rw [hP] at hn'; unfold eL at hn'; omega)
  obtain ⟨q1, q2, q3⟩ := e1 _ hd2
  obtain ⟨n1, n2, n3, n4, _⟩ := nx_bd f1 q3.1
  rw [← hs] at n1 n2
  rw [hg]
  have h0 : 0 ≤ ((crP T M s m e).getD (n + 1) 0 - (crP T M s m e).getD n 0) / spc T M := Int.ediv_nonneg (by omega) (by omega)
  have h1 : ((crP T M s m e).getD (n + 1) 0 - (crP T M s m e).getD n 0) / spc T M ≤ 120 := Int.ediv_le_of_le_mul (by omega) (by omega)
  rw [decide_eq_true h0, decide_eq_true h1]
  rfl
def toler_res (T : Int) (M : Int) (s : Int) (m : List (List Int)) (j : List Int) (d : List Int) (u : List Int) (e : Int) : CRes := ⟨[fewB s m e], .tup [.cel (.bool (toB T M s m j d u e)), .cel (.int .i64 (toE T M s m j d u e))], []⟩
def toler_go : List TV → List RowA → List (List CV) → Option CRes := fun args rows caps =>
  match args, rows, caps with
  | [.agg [.int .i64 T, .int .i64 M], .agg [.int .i64 s, .row 0], .agg [.row 1, .row 2, .row 3], .cel (.int .i64 e)], [.recs [.int .i64, .int .i64] m, .ints .i64 j, .ints .i64 d, .ints .i64 u], [] => some (toler_res T M s m j d u e)
  | _, _, _ => none
def toler_e : Ent := ⟨14, [.recs [.int .i64, .int .i64] [], .ints .i64 [], .ints .i64 [], .ints .i64 []], toler_go⟩
set_option maxRecDepth 100000 in
theorem toler_tree (T : Int) (M : Int) (s : Int) (m : List (List Int)) (j : List Int) (d : List Int) (u : List Int) (e : Int) : ((cnd (fewB s m e)
  (cnd (!(decide ((crE (wValid T M) s m e) = (0 : Int))))
    ((Bool.false = (toB T M s m j d u e)) ∧ ((crE (wValid T M) s m e) = (toE T M s m j d u e)))
    (cnd (lngB j d u)
      ((Bool.false = (toB T M s m j d u e)) ∧ ((5 : Int) = (toE T M s m j d u e)))
      (cnd (decide ((((List.length j) : Nat) : Int) ≤ (1000000 : Int)))
        (cnd ((!((List.any j (fun x => (!(isJ x)))) == Bool.false)) || (decide ((((List.length u) : Nat) : Int) ≤ (1000000 : Int))))
          (cnd ((List.any j (fun x => (!(isJ x)))) || (List.any u (fun x => (!(isT x)))))
            ((Bool.false = (toB T M s m j d u e)) ∧ ((2 : Int) = (toE T M s m j d u e)))
            (cnd (wValid T M)
              (cnd (vE (crP T M s m e))
                (cnd ((!((decide ((((List.length d) : Nat) : Int) = (0 : Int))) == Bool.true)) || (vE (crT T M s m e)))
                  (cnd ((!((decide ((((List.length d) : Nat) : Int) = (0 : Int))) == Bool.true)) || (decide ((List.length (spsL T M (crP T M s m e))) = ((List.length (crT T M s m e)) - 1))))
                    (cnd ((!((decide ((((List.length d) : Nat) : Int) = (0 : Int))) == Bool.true)) || (List.all (spsL T M (crP T M s m e)) (fun x => ((decide ((0 : Int) ≤ x)) && (decide (x ≤ (120 : Int)))))))
                      (cnd ((!((decide ((((List.length d) : Nat) : Int) = (0 : Int))) == Bool.true)) || (List.all j isJ))
                        (cnd ((!(((decide ((((List.length d) : Nat) : Int) = (0 : Int))) && (calmB (crT T M s m e) (spsL T M (crP T M s m e)) j)) == Bool.true)) || (vE (crT T M s m e)))
                          (cnd ((!(((decide ((((List.length d) : Nat) : Int) = (0 : Int))) && (calmB (crT T M s m e) (spsL T M (crP T M s m e)) j)) == Bool.true)) || (decide ((List.length (spsL T M (crP T M s m e))) = ((List.length (crT T M s m e)) - 1))))
                            (cnd ((!(((decide ((((List.length d) : Nat) : Int) = (0 : Int))) && (calmB (crT T M s m e) (spsL T M (crP T M s m e)) j)) == Bool.true)) || (List.all (spsL T M (crP T M s m e)) (fun x => ((decide ((0 : Int) ≤ x)) && (decide (x ≤ (120 : Int)))))))
                              (cnd ((!(((decide ((((List.length d) : Nat) : Int) = (0 : Int))) && (calmB (crT T M s m e) (spsL T M (crP T M s m e)) j)) == Bool.true)) || (List.all j isJ))
                                (cnd ((!(((decide ((((List.length d) : Nat) : Int) = (0 : Int))) && (calmB (crT T M s m e) (spsL T M (crP T M s m e)) j)) == Bool.true)) || (List.all u isT))
                                  (cnd ((!(((decide ((((List.length d) : Nat) : Int) = (0 : Int))) && (calmB (crT T M s m e) (spsL T M (crP T M s m e)) j)) == Bool.true)) || (decide ((List.length u) ≤ 1000)))
                                    (cnd ((!((((decide ((((List.length d) : Nat) : Int) = (0 : Int))) && (calmB (crT T M s m e) (spsL T M (crP T M s m e)) j)) && (List.all u (sparP (crT T M s m e) (spsL T M (crP T M s m e)) j))) == Bool.true)) || (vE (crT T M s m e)))
                                      (cnd ((!((((decide ((((List.length d) : Nat) : Int) = (0 : Int))) && (calmB (crT T M s m e) (spsL T M (crP T M s m e)) j)) && (List.all u (sparP (crT T M s m e) (spsL T M (crP T M s m e)) j))) == Bool.true)) || (mValid s m))
                                        ((((((decide ((((List.length d) : Nat) : Int) = (0 : Int))) && (calmB (crT T M s m e) (spsL T M (crP T M s m e)) j)) && (List.all u (sparP (crT T M s m e) (spsL T M (crP T M s m e)) j))) && (stdB (crT T M s m e) m)) = (toB T M s m j d u e)) ∧ ((0 : Int) = (toE T M s m j d u e)))
                                        False)
                                      False)
                                    False)
                                  False)
                                False)
                              False)
                            False)
                          False)
                        False)
                      False)
                    False)
                  False)
                False)
              False))
          False)
        False)))
  False)) = EXD Try.prog (conOf [crank_e, long_e, shaky_e, tol1_cfn_e, spaces_e, calm_e, spared_e, steady_e]) Try.f14 [.agg [.int .i64 T, .int .i64 M], .agg [.int .i64 s, .row 0], .agg [.row 1, .row 2, .row 3], .cel (.int .i64 e)] [.recs [.int .i64, .int .i64] m, .ints .i64 j, .ints .i64 d, .ints .i64 u] [] (toler_res T M s m j d u e) := by kernel_rfl
theorem toler_holds (T : Int) (M : Int) (s : Int) (m : List (List Int)) (j : List Int) (d : List Int) (u : List Int) (e : Int) (p0 : (fewB s m e) = true) : (cnd (fewB s m e)
  (cnd (!(decide ((crE (wValid T M) s m e) = (0 : Int))))
    ((Bool.false = (toB T M s m j d u e)) ∧ ((crE (wValid T M) s m e) = (toE T M s m j d u e)))
    (cnd (lngB j d u)
      ((Bool.false = (toB T M s m j d u e)) ∧ ((5 : Int) = (toE T M s m j d u e)))
      (cnd (decide ((((List.length j) : Nat) : Int) ≤ (1000000 : Int)))
        (cnd ((!((List.any j (fun x => (!(isJ x)))) == Bool.false)) || (decide ((((List.length u) : Nat) : Int) ≤ (1000000 : Int))))
          (cnd ((List.any j (fun x => (!(isJ x)))) || (List.any u (fun x => (!(isT x)))))
            ((Bool.false = (toB T M s m j d u e)) ∧ ((2 : Int) = (toE T M s m j d u e)))
            (cnd (wValid T M)
              (cnd (vE (crP T M s m e))
                (cnd ((!((decide ((((List.length d) : Nat) : Int) = (0 : Int))) == Bool.true)) || (vE (crT T M s m e)))
                  (cnd ((!((decide ((((List.length d) : Nat) : Int) = (0 : Int))) == Bool.true)) || (decide ((List.length (spsL T M (crP T M s m e))) = ((List.length (crT T M s m e)) - 1))))
                    (cnd ((!((decide ((((List.length d) : Nat) : Int) = (0 : Int))) == Bool.true)) || (List.all (spsL T M (crP T M s m e)) (fun x => ((decide ((0 : Int) ≤ x)) && (decide (x ≤ (120 : Int)))))))
                      (cnd ((!((decide ((((List.length d) : Nat) : Int) = (0 : Int))) == Bool.true)) || (List.all j isJ))
                        (cnd ((!(((decide ((((List.length d) : Nat) : Int) = (0 : Int))) && (calmB (crT T M s m e) (spsL T M (crP T M s m e)) j)) == Bool.true)) || (vE (crT T M s m e)))
                          (cnd ((!(((decide ((((List.length d) : Nat) : Int) = (0 : Int))) && (calmB (crT T M s m e) (spsL T M (crP T M s m e)) j)) == Bool.true)) || (decide ((List.length (spsL T M (crP T M s m e))) = ((List.length (crT T M s m e)) - 1))))
                            (cnd ((!(((decide ((((List.length d) : Nat) : Int) = (0 : Int))) && (calmB (crT T M s m e) (spsL T M (crP T M s m e)) j)) == Bool.true)) || (List.all (spsL T M (crP T M s m e)) (fun x => ((decide ((0 : Int) ≤ x)) && (decide (x ≤ (120 : Int)))))))
                              (cnd ((!(((decide ((((List.length d) : Nat) : Int) = (0 : Int))) && (calmB (crT T M s m e) (spsL T M (crP T M s m e)) j)) == Bool.true)) || (List.all j isJ))
                                (cnd ((!(((decide ((((List.length d) : Nat) : Int) = (0 : Int))) && (calmB (crT T M s m e) (spsL T M (crP T M s m e)) j)) == Bool.true)) || (List.all u isT))
                                  (cnd ((!(((decide ((((List.length d) : Nat) : Int) = (0 : Int))) && (calmB (crT T M s m e) (spsL T M (crP T M s m e)) j)) == Bool.true)) || (decide ((List.length u) ≤ 1000)))
                                    (cnd ((!((((decide ((((List.length d) : Nat) : Int) = (0 : Int))) && (calmB (crT T M s m e) (spsL T M (crP T M s m e)) j)) && (List.all u (sparP (crT T M s m e) (spsL T M (crP T M s m e)) j))) == Bool.true)) || (vE (crT T M s m e)))
                                      (cnd ((!((((decide ((((List.length d) : Nat) : Int) = (0 : Int))) && (calmB (crT T M s m e) (spsL T M (crP T M s m e)) j)) && (List.all u (sparP (crT T M s m e) (spsL T M (crP T M s m e)) j))) == Bool.true)) || (mValid s m))
                                        ((((((decide ((((List.length d) : Nat) : Int) = (0 : Int))) && (calmB (crT T M s m e) (spsL T M (crP T M s m e)) j)) && (List.all u (sparP (crT T M s m e) (spsL T M (crP T M s m e)) j))) && (stdB (crT T M s m e) m)) = (toB T M s m j d u e)) ∧ ((0 : Int) = (toE T M s m j d u e)))
                                        False)
                                      False)
                                    False)
                                  False)
                                False)
                              False)
                            False)
                          False)
                        False)
                      False)
                    False)
                  False)
                False)
              False))
          False)
        False)))
  False) := by
  rw [p0]
  refine cnd_i (fun _ => ?_) (fun h => by cases h)
  by_cases hz : crE (wValid T M) s m e = 0
  · obtain ⟨f1, f2, f3, f4, f5, f6, f7, f8, f9⟩ := cr_facts hz p0
    obtain ⟨c1, c2, c3⟩ := cr_valid hz p0
    obtain ⟨d1, d2, d3⟩ := cr_pos hz p0
    rw [decide_eq_true hz]
    cases hl : lngB j d u with
    | true =>
      have hE : toE T M s m j d u e = 5 := by unfold toE; rw [if_pos hz, hl]; rfl
      refine ⟨?_, hE.symm⟩
      unfold toB
      rw [hE]
      simp
    | false =>
      have hlen : j.length ≤ 1000 ∧ d.length ≤ 1000 ∧ u.length ≤ 1000 := by
        unfold lngB at hl
        simp only [Bool.or_eq_false_iff, decide_eq_false_iff_not] at hl
        omega
      rw [decide_eq_true (show (j.length : Int) ≤ 1000000 by omega), decide_eq_true (show (u.length : Int) ≤ 1000000 by omega), f1, d1, c1, decide_eq_true d2, d3, f2, decide_eq_true hlen.2.2, any_not, any_not]
      cases hj : j.all isJ with
      | false =>
        have hE : toE T M s m j d u e = 2 := by unfold toE; rw [if_pos hz, hl, any_not, hj]; rfl
        refine ⟨?_, hE.symm⟩
        unfold toB
        rw [hE]
        simp
      | true =>
        cases hu : u.all isT with
        | false =>
          have hE : toE T M s m j d u e = 2 := by unfold toE; rw [if_pos hz, hl, any_not, any_not, hj, hu]; rfl
          refine ⟨?_, hE.symm⟩
          unfold toB
          rw [hE]
          simp
        | true =>
          have hE : toE T M s m j d u e = 0 := by unfold toE; rw [if_pos hz, hl, any_not, any_not, hj, hu]; rfl
          have hd : decide (((d.length : Nat) : Int) = 0) = decide (d.length = 0) := by rw [decide_eq_decide]; omega
          simp only [Bool.or_true, cnd, Bool.not_true, Bool.or_self]
          refine ⟨?_, hE.symm⟩
          unfold toB
          rw [hE, hd]
          simp
  · have hE : toE T M s m j d u e = crE (wValid T M) s m e := by unfold toE; rw [if_neg hz]
    rw [decide_eq_false hz]
    refine ⟨?_, hE.symm⟩
    unfold toB
    rw [hE, decide_eq_false hz]
    rfl
set_option maxHeartbeats 2000000 in
theorem toler_ok : SoundEnt Try.prog toler_e := by
  refine ent_of_ex (Γ := (conOf [crank_e, long_e, shaky_e, tol1_cfn_e, spaces_e, calm_e, spared_e, steady_e])) (conOf_sound (scons crank_ok (scons long_ok (scons shaky_ok (scons tol1_cfn_ok (scons spaces_ok (scons calm_ok (scons spared_ok (scons steady_ok snil))))))))) (by kernel_rfl) Try.func14 (by kernel_rfl) (by kernel_rfl) (fun args rows caps res h ho => ?_)
  change toler_go args rows caps = some res at h
  unfold toler_go at h
  split at h
  · simp only [Option.some.injEq] at h
    subst h
    rename_i q0_ q1_ q2_ q7_ q3_ q4_ q5_ q6_
    obtain ⟨p0, _⟩ := ho
    exact EX.of (toler_tree q0_ q1_ q2_ q3_ q4_ q5_ q6_ q7_) (toler_holds q0_ q1_ q2_ q3_ q4_ q5_ q6_ q7_ p0)
  · cases h
end Go.Proofs.Ythfliohfkhnpiaa

