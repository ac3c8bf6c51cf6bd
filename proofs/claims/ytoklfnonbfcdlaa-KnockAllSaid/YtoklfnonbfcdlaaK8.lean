/- New, Most, equal lists. -/
import Derived.Test.YtoklfnonbfcdlaaK4
import Derived.Test.YtoklfnonbfcdlaaRp
namespace Go.Proofs.Ytoklfnonbfcdlaa
set_option linter.unusedVariables false
set_option linter.unusedSimpArgs false
open Go.RowKit

def nwL (n : Int) : List (List Int) := if 1 ≤ n ∧ n ≤ 8 then List.replicate n.toNat [0, 100, 0] else []
def knew_res (n : Int) : CRes := ⟨[], .tup [.cel (.row 0), .cel (.int .i64 (if 1 ≤ n ∧ n ≤ 8 then 0 else 2))], [.recs [.int .i64, .int .i64, .int .i64] (nwL n)]⟩
def knew_go : List TV → List RowA → List (List CV) → Option CRes := fun args rows caps =>
  match args, rows, caps with
  | [.cel (.int .i64 n)], [], [] => some (knew_res n)
  | _, _, _ => none
def knew_e : Ent := ⟨19, [], knew_go⟩
set_option maxRecDepth 100000 in
theorem knew_tree (n : Int) : ((cnd ((decide (n < (1 : Int))) || (decide ((8 : Int) < n)))
  ((True ∧ ((2 : Int) = (if (((1 : Int) ≤ n) ∧ (n ≤ (8 : Int))) then (0 : Int) else (2 : Int)))) ∧ (((nwL n) = ([] : List (List Int))) ∧ True))
  (cnd (decide ((1 : Int) ≤ n))
    (cnd (decide (n ≤ (8 : Int)))
      ((True ∧ ((0 : Int) = (if (((1 : Int) ≤ n) ∧ (n ≤ (8 : Int))) then (0 : Int) else (2 : Int)))) ∧ (((List.replicate (Int.toNat n) [(0 : Int), (100 : Int), (0 : Int)]) = (nwL n)) ∧ True))
      False)
    False))) = EXD Try.prog (conOf [rep_e]) Try.f19 [.cel (.int .i64 n)] [] [] (knew_res n) := by kernel_rfl
theorem knew_holds (n : Int)  : (cnd ((decide (n < (1 : Int))) || (decide ((8 : Int) < n)))
  ((True ∧ ((2 : Int) = (if (((1 : Int) ≤ n) ∧ (n ≤ (8 : Int))) then (0 : Int) else (2 : Int)))) ∧ (((nwL n) = ([] : List (List Int))) ∧ True))
  (cnd (decide ((1 : Int) ≤ n))
    (cnd (decide (n ≤ (8 : Int)))
      ((True ∧ ((0 : Int) = (if (((1 : Int) ≤ n) ∧ (n ≤ (8 : Int))) then (0 : Int) else (2 : Int)))) ∧ (((List.replicate (Int.toNat n) [(0 : Int), (100 : Int), (0 : Int)]) = (nwL n)) ∧ True))
      False)
    False)) := by
  unfold nwL
  by_cases h : 1 ≤ n ∧ n ≤ 8
  · rw [if_pos h, if_pos h, decide_eq_false (show ¬ n < 1 by omega), decide_eq_false (show ¬ 8 < n by omega), decide_eq_true h.1, decide_eq_true h.2]
    exact ⟨⟨trivial, rfl⟩, rfl, trivial⟩
  · rw [if_neg h, if_neg h]
    have hb : (decide (n < 1) || decide (8 < n)) = true := by
      simp only [Bool.or_eq_true, decide_eq_true_eq]
      omega
    rw [hb]
    exact ⟨⟨trivial, rfl⟩, rfl, trivial⟩
set_option maxHeartbeats 2000000 in
theorem knew_ok : SoundEnt Try.prog knew_e := by
  refine ent_of_ex (Γ := (conOf [rep_e])) (conOf_sound (scons rep_ok snil)) (by kernel_rfl) Try.func19 (by kernel_rfl) (by kernel_rfl) (fun args rows caps res h ho => ?_)
  change knew_go args rows caps = some res at h
  unfold knew_go at h
  split at h
  · simp only [Option.some.injEq] at h
    subst h
    rename_i q0_
    skip
    exact EX.of (knew_tree q0_) (knew_holds q0_)
  · cases h
def mst : List (List Int) → Int → Int
  | [], m => m
  | x :: l, m => if kB x then mst l (max m (x.getD 0 0)) else 0
def most_res (l : List (List Int)) : CRes := ⟨[decide ((l.length : Int) ≤ 1000)], .one (.cel (.int .i64 (mst l 0))), []⟩
def most_go : List TV → List RowA → List (List CV) → Option CRes := fun args rows caps =>
  match args, rows, caps with
  | [.cel (.row 0)], [.recs [.int .i64, .int .i64, .int .i64] l], [] => some (most_res l)
  | _, _, _ => none
def most_e : Ent := ⟨24, [.recs [.int .i64, .int .i64, .int .i64] []], most_go⟩
def most_L1_F (l : List (List Int)) (i : Int) (m : Int) : St := ⟨21, [], [(8, (.one (.cel (.int .i64 i)))), (7, (.one (.cel (.int .i64 (((List.length l) : Nat) : Int))))), (6, (.one (.cel (.row 0)))), (3, (.one (.cel (.int .i64 m)))), (2, (.one (.cel (.int .i64 (0 : Int)))))], [], [⟨(.recs [.int .i64, .int .i64, .int .i64] l), none⟩], 0⟩
def most_L1_I (l : List (List Int)) (i : Int) (m : Int) : Prop := (0 ≤ i ∧ i ≤ l.length) ∧ (mst l 0 = mst (l.drop i.toNat) m)
def most_L1_m (l : List (List Int)) (i : Int) (m : Int) : Nat := (l.length - i).toNat
def most_L1_N (l : List (List Int)) (i' : Int) (m' : Int) (st_ : St) : Prop := getI st_ 8 fun i => getI st_ 3 fun m => most_L1_I l i m ∧ most_L1_m l i m < most_L1_m l i' m' ∧ SubA st_ (most_L1_F l i m)
def most_L1_E (l : List (List Int)) (st_ : St) : Prop := getI st_ 8 fun i => getI st_ 3 fun m => most_L1_I l i m ∧ SubA st_ (most_L1_F l i m)
def most_L1_S1 (l : List (List Int)) : St := ⟨21, [], [(8, (.one (.cel (.int .i64 (0 : Int))))), (7, (.one (.cel (.int .i64 (((List.length l) : Nat) : Int))))), (6, (.one (.cel (.row 0)))), (3, (.one (.cel (.int .i64 (0 : Int))))), (2, (.one (.cel (.int .i64 (0 : Int))))), (0, (.one (.cel (.row 0))))], [], [⟨(.recs [.int .i64, .int .i64, .int .i64] l), none⟩], 0⟩
def most_L1_T (l : List (List Int)) (i : Int) (m : Int) : Prop := (cnd (decide (i < (((List.length l) : Nat) : Int)))
  (cnd (decide ((0 : Int) ≤ i))
    (cnd (decide (i < (((List.length l) : Nat) : Int)))
      (cnd (!(knockB (List.getD (List.getD l (Int.toNat i) ([] : List Int)) 0 (0 : Int)) (List.getD (List.getD l (Int.toNat i) ([] : List Int)) (0 + 1) (0 : Int)) (List.getD (List.getD l (Int.toNat i) ([] : List Int)) ((0 + 1) + 1) (0 : Int))))
        ((0 : Int) = (mst l (0 : Int)))
        ((most_L1_I l (Go.IntKind.wrap Go.IntKind.i64 (i + (1 : Int))) (gmax m (List.getD (List.getD l (Int.toNat i) ([] : List Int)) 0 (0 : Int)))) ∧ (((most_L1_m l (Go.IntKind.wrap Go.IntKind.i64 (i + (1 : Int))) (gmax m (List.getD (List.getD l (Int.toNat i) ([] : List Int)) 0 (0 : Int)))) < (most_L1_m l i m)) ∧ (((Go.IntKind.wrap Go.IntKind.i64 (i + (1 : Int))) = (Go.IntKind.wrap Go.IntKind.i64 (i + (1 : Int)))) ∧ (((((List.length l) : Nat) : Int) = (((List.length l) : Nat) : Int)) ∧ (True ∧ (((gmax m (List.getD (List.getD l (Int.toNat i) ([] : List Int)) 0 (0 : Int))) = (gmax m (List.getD (List.getD l (Int.toNat i) ([] : List Int)) 0 (0 : Int)))) ∧ (((0 : Int) = (0 : Int)) ∧ ((l = l) ∧ True)))))))))
      False)
    False)
  (m = (mst l (0 : Int))))
set_option maxRecDepth 100000 in
theorem most_L1_tree (l : List (List Int)) (i : Int) (m : Int) : most_L1_T l i m = ex Try.prog (conOf [valid_e]) (subC (bodyOf Try.f24) [1, 1, 0, 1, 0, 0]) (nextE (most_L1_N l i m) (kont Try.prog (conOf [valid_e]) (bodyOf Try.f24) [1, 1, 0, 1, 0] (retPost Try.prog Try.f24 1 (most_res l)))) (most_L1_F l i m) := by kernel_rfl
set_option maxRecDepth 100000 in
theorem most_L1_round (l : List (List Int)) (i : Int) (m : Int) (p0 : (decide ((l.length : Int) ≤ 1000)) = true) (hI_L1 : most_L1_I l i m) : most_L1_T l i m := by
  obtain ⟨⟨a1, a2⟩, a3⟩ := hI_L1
  simp only [decide_eq_true_eq] at p0
  unfold most_L1_T
  rw [w64 (n := i + 1) (by omega) (by omega)]
  by_cases hi : i < l.length
  · rw [drop_consG (d := []) a1 hi, mst] at a3
    rw [decide_eq_true hi, decide_eq_true a1]
    have hg : gmax m (List.getD (List.getD l i.toNat []) 0 0) = max m (List.getD (List.getD l i.toNat []) 0 0) := by unfold gmax; omega
    rw [hg]
    have hF : mst l 0 = mst (l.drop (i.toNat + 1)) (max m (List.getD (List.getD l i.toNat []) 0 0)) → most_L1_I l (i + 1) (max m (List.getD (List.getD l i.toNat []) 0 0)) := fun h => ⟨⟨by omega, by omega⟩, by rw [show (i + 1).toNat = i.toNat + 1 by omega]; exact h⟩
    have hμ : ∀ m', most_L1_m l (i + 1) m' < most_L1_m l i m := fun _ => by unfold most_L1_m; omega
    generalize l.getD i.toNat [] = x at *
    change cnd true (cnd true (cnd true (cnd (!kB x) _ _) _) _) _
    cases hk : kB x with
    | false =>
      rw [hk] at a3
      exact a3.symm
    | true =>
      rw [hk, if_pos rfl] at a3
      exact ⟨hF a3, hμ _, by simp⟩
  · rw [decide_eq_false hi]
    rw [List.drop_eq_nil_of_le (by omega), mst] at a3
    exact a3.symm
set_option maxRecDepth 100000 in
theorem most_L1_entry1 (l : List (List Int)) : (((most_L1_I l (0 : Int) (0 : Int)) ∧ (((0 : Int) = (0 : Int)) ∧ (((((List.length l) : Nat) : Int) = (((List.length l) : Nat) : Int)) ∧ (True ∧ (((0 : Int) = (0 : Int)) ∧ (((0 : Int) = (0 : Int)) ∧ ((l = l) ∧ True)))))))) = most_L1_E l (most_L1_S1 l) := by kernel_rfl
theorem most_L1_1 (l : List (List Int)) (p0 : (decide ((l.length : Int) ≤ 1000)) = true) (h : ((most_L1_I l (0 : Int) (0 : Int)) ∧ (((0 : Int) = (0 : Int)) ∧ (((((List.length l) : Nat) : Int) = (((List.length l) : Nat) : Int)) ∧ (True ∧ (((0 : Int) = (0 : Int)) ∧ (((0 : Int) = (0 : Int)) ∧ ((l = l) ∧ True)))))))) : LoopP (ex Try.prog (conOf [valid_e]) (subC (bodyOf Try.f24) [1, 1, 0, 1, 0, 0])) (kont Try.prog (conOf [valid_e]) (bodyOf Try.f24) [1, 1, 0, 1, 0] (retPost Try.prog Try.f24 1 (most_res l))) (most_L1_S1 l) := by
  have hE : most_L1_E l (most_L1_S1 l) := Eq.mp (most_L1_entry1 l) h
  unfold most_L1_E at hE
  obtain ⟨i, hE⟩ := getI_of hE
  obtain ⟨m, hE⟩ := getI_of hE
  refine loop_of (α := (Int) × (Int)) (fun xx_ => most_L1_F l xx_.1 xx_.2) (fun xx_ => most_L1_I l xx_.1 xx_.2) (fun xx_ => most_L1_m l xx_.1 xx_.2) (fun xx_ => most_L1_N l xx_.1 xx_.2) (fun xx_ => most_L1_T l xx_.1 xx_.2) (fun xx_ s_ h => ?_) ⟨⟨i, m⟩, hE⟩ (fun xx_ => most_L1_tree l xx_.1 xx_.2) (fun xx_ hI => most_L1_round l xx_.1 xx_.2 p0 hI)
  unfold most_L1_N at h
  obtain ⟨i, h⟩ := getI_of h
  obtain ⟨m, h⟩ := getI_of h
  exact ⟨⟨i, m⟩, h⟩
set_option maxRecDepth 100000 in
theorem most_tree (l : List (List Int)) : ((LoopP (ex Try.prog (conOf [valid_e]) (subC (bodyOf Try.f24) [1, 1, 0, 1, 0, 0])) (kont Try.prog (conOf [valid_e]) (bodyOf Try.f24) [1, 1, 0, 1, 0] (retPost Try.prog Try.f24 1 (most_res l))) (most_L1_S1 l))) = EXD Try.prog (conOf [valid_e]) Try.f24 [.cel (.row 0)] [.recs [.int .i64, .int .i64, .int .i64] l] [] (most_res l) := by kernel_rfl
theorem most_holds (l : List (List Int)) (p0 : (decide ((l.length : Int) ≤ 1000)) = true) : (LoopP (ex Try.prog (conOf [valid_e]) (subC (bodyOf Try.f24) [1, 1, 0, 1, 0, 0])) (kont Try.prog (conOf [valid_e]) (bodyOf Try.f24) [1, 1, 0, 1, 0] (retPost Try.prog Try.f24 1 (most_res l))) (most_L1_S1 l)) := by
  exact most_L1_1 l p0 ⟨⟨⟨by omega, by omega⟩, by simp⟩, by simp⟩
set_option maxHeartbeats 2000000 in
theorem most_ok : SoundEnt Try.prog most_e := by
  refine ent_of_ex (Γ := (conOf [valid_e])) (conOf_sound (scons valid_ok snil)) (by kernel_rfl) Try.func24 (by kernel_rfl) (by kernel_rfl) (fun args rows caps res h ho => ?_)
  change most_go args rows caps = some res at h
  unfold most_go at h
  split at h
  · simp only [Option.some.injEq] at h
    subst h
    rename_i q0_
    obtain ⟨p0, _⟩ := ho
    exact EX.of (most_tree q0_) (most_holds q0_ p0)
  · cases h
def tri (r : List Int) : List Int := [r.getD 0 0, r.getD 1 0, r.getD 2 0]
theorem tri_dec (a b : List Int) : ((decide ((List.getD a 0 (0 : Int)) = (List.getD b 0 (0 : Int)))) && ((decide ((List.getD a (0 + 1) (0 : Int)) = (List.getD b (0 + 1) (0 : Int)))) && ((decide ((List.getD a ((0 + 1) + 1) (0 : Int)) = (List.getD b ((0 + 1) + 1) (0 : Int)))) && Bool.true))) = decide (tri a = tri b) := by
  simp [tri]
def equal_res (l : List (List Int)) (m : List (List Int)) : CRes := ⟨[decide (l.length ≤ 1000), decide (m.length ≤ 1000)], .one (.cel (.bool (decide (l.map tri = m.map tri)))), []⟩
def equal_go : List TV → List RowA → List (List CV) → Option CRes := fun args rows caps =>
  match args, rows, caps with
  | [.cel (.row 0), .cel (.row 1)], [.recs [.int .i64, .int .i64, .int .i64] l, .recs [.int .i64, .int .i64, .int .i64] m], [] => some (equal_res l m)
  | _, _, _ => none
def equal_e : Ent := ⟨20, [.recs [.int .i64, .int .i64, .int .i64] [], .recs [.int .i64, .int .i64, .int .i64] []], equal_go⟩
def equal_L1_F (l : List (List Int)) (m : List (List Int)) (i : Int) : St := ⟨26, [], [(13, (.one (.cel (.int .i64 i)))), (12, (.one (.cel (.int .i64 (((List.length l) : Nat) : Int))))), (4, (.one (.cel (.bool Bool.false)))), (0, (.one (.cel (.row 0)))), (1, (.one (.cel (.row 1))))], [], [⟨(.recs [.int .i64, .int .i64, .int .i64] l), none⟩, ⟨(.recs [.int .i64, .int .i64, .int .i64] m), none⟩], 0⟩
def equal_L1_I (l : List (List Int)) (m : List (List Int)) (i : Int) : Prop := (0 ≤ i ∧ i ≤ l.length ∧ l.length = m.length) ∧ ((l.take i.toNat).map tri = (m.take i.toNat).map tri)
def equal_L1_m (l : List (List Int)) (m : List (List Int)) (i : Int) : Nat := (l.length - i).toNat
def equal_L1_N (l : List (List Int)) (m : List (List Int)) (i' : Int) (st_ : St) : Prop := getI st_ 13 fun i => equal_L1_I l m i ∧ equal_L1_m l m i < equal_L1_m l m i' ∧ SubA st_ (equal_L1_F l m i)
def equal_L1_E (l : List (List Int)) (m : List (List Int)) (st_ : St) : Prop := getI st_ 13 fun i => equal_L1_I l m i ∧ SubA st_ (equal_L1_F l m i)
def equal_L1_S1 (l : List (List Int)) (m : List (List Int)) : St := ⟨26, [], [(13, (.one (.cel (.int .i64 (0 : Int))))), (12, (.one (.cel (.int .i64 (((List.length l) : Nat) : Int))))), (11, (.one (.cel (.row 0)))), (10, (.one (.cel (.bool (!(decide ((((List.length l) : Nat) : Int) = (((List.length m) : Nat) : Int)))))))), (9, (.one (.cel (.int .i64 (((List.length m) : Nat) : Int))))), (8, (.one (.cel (.row 1)))), (7, (.one (.cel (.int .i64 (((List.length l) : Nat) : Int))))), (6, (.one (.cel (.row 0)))), (4, (.one (.cel (.bool Bool.false)))), (0, (.one (.cel (.row 0)))), (1, (.one (.cel (.row 1))))], [], [⟨(.recs [.int .i64, .int .i64, .int .i64] l), none⟩, ⟨(.recs [.int .i64, .int .i64, .int .i64] m), none⟩], 0⟩
def equal_L1_T (l : List (List Int)) (m : List (List Int)) (i : Int) : Prop := (cnd (decide (i < (((List.length l) : Nat) : Int)))
  (cnd (decide ((0 : Int) ≤ i))
    (cnd (decide (i < (((List.length l) : Nat) : Int)))
      (cnd (decide ((0 : Int) ≤ i))
        (cnd (decide (i < (((List.length m) : Nat) : Int)))
          (cnd (!((decide ((List.getD (List.getD l (Int.toNat i) ([] : List Int)) 0 (0 : Int)) = (List.getD (List.getD m (Int.toNat i) ([] : List Int)) 0 (0 : Int)))) && ((decide ((List.getD (List.getD l (Int.toNat i) ([] : List Int)) (0 + 1) (0 : Int)) = (List.getD (List.getD m (Int.toNat i) ([] : List Int)) (0 + 1) (0 : Int)))) && ((decide ((List.getD (List.getD l (Int.toNat i) ([] : List Int)) ((0 + 1) + 1) (0 : Int)) = (List.getD (List.getD m (Int.toNat i) ([] : List Int)) ((0 + 1) + 1) (0 : Int)))) && Bool.true))))
            (Bool.false = (decide ((List.map tri l) = (List.map tri m))))
            ((equal_L1_I l m (Go.IntKind.wrap Go.IntKind.i64 (i + (1 : Int)))) ∧ (((equal_L1_m l m (Go.IntKind.wrap Go.IntKind.i64 (i + (1 : Int)))) < (equal_L1_m l m i)) ∧ (((Go.IntKind.wrap Go.IntKind.i64 (i + (1 : Int))) = (Go.IntKind.wrap Go.IntKind.i64 (i + (1 : Int)))) ∧ (((((List.length l) : Nat) : Int) = (((List.length l) : Nat) : Int)) ∧ ((Bool.false = Bool.false) ∧ (True ∧ (True ∧ ((l = l) ∧ ((m = m) ∧ True))))))))))
          False)
        False)
      False)
    False)
  (Bool.true = (decide ((List.map tri l) = (List.map tri m)))))
set_option maxRecDepth 100000 in
theorem equal_L1_tree (l : List (List Int)) (m : List (List Int)) (i : Int) : equal_L1_T l m i = ex Try.prog (conOf []) (subC (bodyOf Try.f20) [1, 1, 0, 1, 0, 0]) (nextE (equal_L1_N l m i) (kont Try.prog (conOf []) (bodyOf Try.f20) [1, 1, 0, 1, 0] (retPost Try.prog Try.f20 2 (equal_res l m)))) (equal_L1_F l m i) := by kernel_rfl
set_option maxRecDepth 100000 in
theorem equal_L1_round (l : List (List Int)) (m : List (List Int)) (i : Int) (p0 : (decide (l.length ≤ 1000)) = true) (p1 : (decide (m.length ≤ 1000)) = true) (hI_L1 : equal_L1_I l m i) : equal_L1_T l m i := by
  obtain ⟨⟨a1, a2, a3⟩, a4⟩ := hI_L1
  simp only [decide_eq_true_eq] at p0 p1
  unfold equal_L1_T
  rw [w64 (n := i + 1) (by omega) (by omega)]
  by_cases hl : i < l.length
  · have hl2 : i < (m.length : Int) := by omega
    rw [decide_eq_true hl, decide_eq_true hl2, decide_eq_true a1, tri_dec]
    by_cases hx : tri (l.getD i.toNat []) = tri (m.getD i.toNat [])
    · rw [decide_eq_true hx]
      refine ⟨⟨⟨by omega, by omega, a3⟩, ?_⟩, ?_, by simp⟩
      · rw [take_snoc (d := []) a1 hl, take_snoc (d := []) a1 hl2, List.map_append, List.map_append, a4, List.map_singleton, List.map_singleton, hx]
      · unfold equal_L1_m
        omega
    · rw [decide_eq_false hx]
      have hne : ¬ l.map tri = m.map tri := by
        intro h
        apply hx
        have h2 := congrArg (fun z => z[i.toNat]?) h
        simp only [List.getElem?_map] at h2
        rw [List.getElem?_eq_getElem (by omega), List.getElem?_eq_getElem (by omega)] at h2
        rw [List.getD_eq_getElem?_getD, List.getElem?_eq_getElem (by omega), List.getD_eq_getElem?_getD, List.getElem?_eq_getElem (by omega)]
        simpa using h2
      exact (decide_eq_false hne).symm
  · rw [decide_eq_false hl]
    rw [List.take_of_length_le (by omega), List.take_of_length_le (by omega)] at a4
    exact (decide_eq_true a4).symm
set_option maxRecDepth 100000 in
theorem equal_L1_entry1 (l : List (List Int)) (m : List (List Int)) : (((equal_L1_I l m (0 : Int)) ∧ (((0 : Int) = (0 : Int)) ∧ (((((List.length l) : Nat) : Int) = (((List.length l) : Nat) : Int)) ∧ ((Bool.false = Bool.false) ∧ (True ∧ (True ∧ ((l = l) ∧ ((m = m) ∧ True))))))))) = equal_L1_E l m (equal_L1_S1 l m) := by kernel_rfl
theorem equal_L1_1 (l : List (List Int)) (m : List (List Int)) (p0 : (decide (l.length ≤ 1000)) = true) (p1 : (decide (m.length ≤ 1000)) = true) (h : ((equal_L1_I l m (0 : Int)) ∧ (((0 : Int) = (0 : Int)) ∧ (((((List.length l) : Nat) : Int) = (((List.length l) : Nat) : Int)) ∧ ((Bool.false = Bool.false) ∧ (True ∧ (True ∧ ((l = l) ∧ ((m = m) ∧ True))))))))) : LoopP (ex Try.prog (conOf []) (subC (bodyOf Try.f20) [1, 1, 0, 1, 0, 0])) (kont Try.prog (conOf []) (bodyOf Try.f20) [1, 1, 0, 1, 0] (retPost Try.prog Try.f20 2 (equal_res l m))) (equal_L1_S1 l m) := by
  have hE : equal_L1_E l m (equal_L1_S1 l m) := Eq.mp (equal_L1_entry1 l m) h
  unfold equal_L1_E at hE
  obtain ⟨i, hE⟩ := getI_of hE
  refine loop_of (α := (Int)) (fun xx_ => equal_L1_F l m xx_) (fun xx_ => equal_L1_I l m xx_) (fun xx_ => equal_L1_m l m xx_) (fun xx_ => equal_L1_N l m xx_) (fun xx_ => equal_L1_T l m xx_) (fun xx_ s_ h => ?_) ⟨i, hE⟩ (fun xx_ => equal_L1_tree l m xx_) (fun xx_ hI => equal_L1_round l m xx_ p0 p1 hI)
  unfold equal_L1_N at h
  obtain ⟨i, h⟩ := getI_of h
  exact ⟨i, h⟩
set_option maxRecDepth 100000 in
theorem equal_tree (l : List (List Int)) (m : List (List Int)) : ((cnd (!(decide ((((List.length l) : Nat) : Int) = (((List.length m) : Nat) : Int))))
  (Bool.false = (decide ((List.map tri l) = (List.map tri m))))
  (LoopP (ex Try.prog (conOf []) (subC (bodyOf Try.f20) [1, 1, 0, 1, 0, 0])) (kont Try.prog (conOf []) (bodyOf Try.f20) [1, 1, 0, 1, 0] (retPost Try.prog Try.f20 2 (equal_res l m))) (equal_L1_S1 l m)))) = EXD Try.prog (conOf []) Try.f20 [.cel (.row 0), .cel (.row 1)] [.recs [.int .i64, .int .i64, .int .i64] l, .recs [.int .i64, .int .i64, .int .i64] m] [] (equal_res l m) := by kernel_rfl
theorem equal_holds (l : List (List Int)) (m : List (List Int)) (p0 : (decide (l.length ≤ 1000)) = true) (p1 : (decide (m.length ≤ 1000)) = true) : (cnd (!(decide ((((List.length l) : Nat) : Int) = (((List.length m) : Nat) : Int))))
  (Bool.false = (decide ((List.map tri l) = (List.map tri m))))
  (LoopP (ex Try.prog (conOf []) (subC (bodyOf Try.f20) [1, 1, 0, 1, 0, 0])) (kont Try.prog (conOf []) (bodyOf Try.f20) [1, 1, 0, 1, 0] (retPost Try.prog Try.f20 2 (equal_res l m))) (equal_L1_S1 l m))) := by
  by_cases h : l.length = m.length
  · have j : (!decide ((l.length : Int) = (m.length : Int))) = false := by simp [h]
    rw [j]
    exact equal_L1_1 l m p0 p1 ⟨⟨⟨by omega, by omega, h⟩, by simp⟩, by simp⟩
  · have h2 : ¬ (l.length : Int) = (m.length : Int) := by omega
    have h3 : ¬ l.map tri = m.map tri := fun e => h (by have := congrArg List.length e; simpa using this)
    rw [decide_eq_false h2]
    exact (decide_eq_false h3).symm
set_option maxHeartbeats 2000000 in
theorem equal_ok : SoundEnt Try.prog equal_e := by
  refine ent_of_ex (Γ := (conOf [])) (conOf_sound snil) (by kernel_rfl) Try.func20 (by kernel_rfl) (by kernel_rfl) (fun args rows caps res h ho => ?_)
  change equal_go args rows caps = some res at h
  unfold equal_go at h
  split at h
  · simp only [Option.some.injEq] at h
    subst h
    rename_i q0_ q1_
    obtain ⟨p0, p1, _⟩ := ho
    exact EX.of (equal_tree q0_ q1_) (equal_holds q0_ q1_ p0 p1)
  · cases h
end Go.Proofs.Ytoklfnonbfcdlaa

