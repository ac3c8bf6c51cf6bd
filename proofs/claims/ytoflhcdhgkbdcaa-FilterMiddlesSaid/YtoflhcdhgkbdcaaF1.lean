/- Filters: what their functions come to. -/
import Derived.Test.YtoflhcdhgkbdcaaAf
import Derived.Test.YtoflhcdhgkbdcaaRf
import Derived.Test.YtoflhcdhgkbdcaaOr
namespace Go.Proofs.Ytoflhcdhgkbdcaa
set_option linter.unusedVariables false
set_option linter.unusedSimpArgs false
open Go.RowKit

def isV (x : Int) : Bool := decide (-1099511627776 ≤ x) && decide (x ≤ 1099511627776)
theorem isV_iff {x : Int} : isV x = true ↔ -1099511627776 ≤ x ∧ x ≤ 1099511627776 := by simp [isV]
def pw (s : Int) : Int := 2 ^ s.toNat
theorem pw_bd {s : Int} (h : s ≤ 20) : 1 ≤ pw s ∧ pw s ≤ 1048576 := by
  unfold pw
  have h1 : 2 ^ s.toNat ≤ 2 ^ 20 := Nat.pow_le_pow_right (by decide) (by omega)
  have h2 : 1 ≤ 2 ^ s.toNat := Nat.one_le_two_pow
  have e : ((2 ^ s.toNat : Nat) : Int) = 2 ^ s.toNat := by simp
  rw [← e]
  omega
theorem pw_min {s : Int} (h : s ≤ 20) : (2 : Int) ^ (min s.toNat (IntKind.bits .i64)) = pw s := by
  unfold pw
  congr 1
  show min s.toNat 64 = s.toNat
  omega
theorem fdiv_pos {a b : Int} (h : 0 ≤ b) : a.fdiv b = a / b := Int.fdiv_eq_ediv_of_nonneg a h
def lagE (y r x s : Int) : Int := if s < 0 ∨ 20 < s then 2 else if isV y && decide (0 ≤ r) && decide (r < pw s) then (if isV x then 0 else 2) else 1
def lagY (y r x s : Int) : Int := if lagE y r x s = 0 then y + (x - y + r) / pw s else 0
def lagR (y r x s : Int) : Int := if lagE y r x s = 0 then (x - y + r) % pw s else 0
theorem lagE_zero {y r x s : Int} : lagE y r x s = 0 ↔ (0 ≤ s ∧ s ≤ 20) ∧ isV y = true ∧ 0 ≤ r ∧ r < pw s ∧ isV x = true := by
  unfold lagE
  split
  · simp; omega
  · split
    · rename_i h
      simp only [Bool.and_eq_true, decide_eq_true_eq] at h
      cases isV x <;> simp [h] <;> omega
    · rename_i h
      simp only [Bool.and_eq_true, decide_eq_true_eq] at h
      simp only [show ¬ (1 : Int) = 0 by decide, false_iff]
      rintro ⟨_, h1, h2, h3, _⟩
      exact h ⟨⟨h1, h2⟩, h3⟩
def gainV (p i lo hi : Int) : Bool := decide (0 ≤ p) && decide (p ≤ 65536) && decide (0 ≤ i) && decide (i ≤ 65536) && decide (-1073741824 ≤ lo) && decide (lo ≤ hi) && decide (hi ≤ 1073741824)
theorem gainV_iff {p i lo hi : Int} : gainV p i lo hi = true ↔ (0 ≤ p ∧ p ≤ 65536) ∧ (0 ≤ i ∧ i ≤ 65536) ∧ -1073741824 ≤ lo ∧ lo ≤ hi ∧ hi ≤ 1073741824 := by simp [gainV, and_assoc]
def sumV (m : Int) : Bool := decide (-4398046511104 ≤ m) && decide (m ≤ 4398046511104)
theorem sumV_iff {m : Int} : sumV m = true ↔ -4398046511104 ≤ m ∧ m ≤ 4398046511104 := by simp [sumV]
def ctE (m p i lo hi e : Int) : Int := if gainV p i lo hi && sumV m then (if -1048576 ≤ e ∧ e ≤ 1048576 then 0 else 2) else 1
theorem ctE_zero {m p i lo hi e : Int} : ctE m p i lo hi e = 0 ↔ gainV p i lo hi = true ∧ sumV m = true ∧ -1048576 ≤ e ∧ e ≤ 1048576 := by
  unfold ctE
  cases gainV p i lo hi <;> cases sumV m <;> simp
def ctF (m p e : Int) : Int := (p * e + m) / 1024
def ctU (m p i lo hi e : Int) : Int := if ctE m p i lo hi e = 0 then min (max (ctF m p e) lo) hi else 0
def ctG (m p lo hi e : Int) : Bool := (decide (ctF m p e ≤ hi) || decide (e ≤ 0)) && (decide (lo ≤ ctF m p e) || decide (0 ≤ e))
def ctM (m p i lo hi e : Int) : Int := if ctE m p i lo hi e = 0 then (if ctG m p lo hi e then min (max (m + i * e) (-4398046511104)) 4398046511104 else m) else 0
theorem mulB {p e A B : Int} (h0 : 0 ≤ p) (h1 : p ≤ A) (h2 : -B ≤ e) (h3 : e ≤ B) (hB : 0 ≤ B) : -(A * B) ≤ p * e ∧ p * e ≤ A * B := by
  have h4 : p * B ≤ A * B := Int.mul_le_mul_of_nonneg_right h1 hB
  have h5 : p * e ≤ p * B := Int.mul_le_mul_of_nonneg_left h3 h0
  have h6 : p * (-B) ≤ p * e := Int.mul_le_mul_of_nonneg_left h2 h0
  rw [Int.mul_neg] at h6
  omega
def rtE (y x u d : Int) : Int := if u < 0 ∨ 1099511627776 < u ∨ d < 0 ∨ 1099511627776 < d then 1 else if isV y && isV x then 0 else 2
def rtZ (y x u d : Int) : Int := if rtE y x u d = 0 then min (max x (y - d)) (y + u) else 0
theorem rtE_zero {y x u d : Int} : rtE y x u d = 0 ↔ (0 ≤ u ∧ u ≤ 1099511627776) ∧ (0 ≤ d ∧ d ≤ 1099511627776) ∧ isV y = true ∧ isV x = true := by
  unfold rtE
  split
  · simp; omega
  · cases isV y <;> cases isV x <;> simp <;> omega
/-! Lists. -/
def lsum : List Int → Int
  | [] => 0
  | x :: r => x + lsum r
theorem take_succ_getD (l : List Int) (i : Nat) (h : i < l.length) : l.take (i + 1) = l.take i ++ [l.getD i 0] := by
  rw [List.take_add_one, List.getElem?_eq_getElem h, List.getD_eq_getElem?_getD, List.getElem?_eq_getElem h]; rfl
theorem lsum_append (a b : List Int) : lsum (a ++ b) = lsum a + lsum b := by
  induction a with
  | nil => simp [lsum]
  | cons x r ih => simp only [List.cons_append, lsum, ih]; omega
theorem lsum_bd : ∀ {l : List Int}, l.all isV = true → -(l.length * 1099511627776) ≤ lsum l ∧ lsum l ≤ l.length * 1099511627776
  | [], _ => by simp [lsum]
  | x :: r, h => by
    simp only [List.all_cons, Bool.and_eq_true] at h
    have h1 := isV_iff.1 h.1
    have h2 := lsum_bd h.2
    simp only [lsum, List.length_cons]
    omega
def addE (n : Int) (l : List Int) (x : Int) : Int := if 1 ≤ n ∧ n ≤ 15 ∧ (l.length : Int) ≤ n ∧ l.all isV = true then (if isV x then 0 else 2) else 1
def addL (n : Int) (l : List Int) (x : Int) : List Int := if addE n l x = 0 then (if n ≤ l.length then (l ++ [x]).drop 1 else l ++ [x]) else []
def addN (n : Int) (l : List Int) (x : Int) : Int := if addE n l x = 0 then n else 0
theorem addE_zero {n : Int} {l : List Int} {x : Int} : addE n l x = 0 ↔ (1 ≤ n ∧ n ≤ 15 ∧ (l.length : Int) ≤ n ∧ l.all isV = true) ∧ isV x = true := by
  unfold addE
  split
  · rename_i h; cases isV x <;> simp [h]
  · rename_i h
    simp only [show ¬ (1 : Int) = 0 by decide, false_iff]
    exact fun k => h k.1
theorem set_end (l : List Int) (x : Int) : List.set (List.take (List.replicate (l.length + 1) (0 : Int)).length l ++ List.drop l.length (List.replicate (l.length + 1) (0 : Int))) (min l.length (List.replicate (l.length + 1) (0 : Int)).length) x = l ++ [x] := by
  rw [List.length_replicate, Nat.min_eq_left (by omega), List.take_of_length_le (by omega), List.drop_replicate, show l.length + 1 - l.length = 1 by omega, List.set_append_right _ _ (Nat.le_refl _), Nat.sub_self]
  rfl
theorem addL_len {n : Int} {l : List Int} {x : Int} (h : addE n l x = 0) : 1 ≤ (addL n l x).length ∧ ((addL n l x).length : Int) ≤ n ∧ (addL n l x).all isV = true := by
  obtain ⟨⟨h1, h2, h3, h4⟩, h5⟩ := addE_zero.1 h
  have ha : (l ++ [x]).all isV = true := by simp only [List.all_append, h4, List.all_cons, h5, List.all_nil, Bool.and_true]
  unfold addL
  rw [if_pos h]
  split
  · refine ⟨by simp; omega, by simp; omega, ?_⟩
    rw [List.all_eq_true] at ha ⊢
    exact fun y hy => ha y (List.mem_of_mem_drop hy)
  · exact ⟨by simp, by simp; omega, ha⟩
def avg (n : Int) (l : List Int) (x : Int) : Int := if addE n l x = 0 then lsum (addL n l x) / (addL n l x).length else 0
theorem all_take {l : List Int} {i : Int} (h0 : 0 ≤ i) (h1 : i < l.length) (h : (l.take i.toNat).all isV = true) (hx : isV (l.getD i.toNat 0) = true) : (l.take (i + 1).toNat).all isV = true := by
  rw [show (i + 1).toNat = i.toNat + 1 by omega, take_succ_getD _ _ (by omega)]
  simp only [List.all_append, h, List.all_cons, hx, List.all_nil, Bool.and_true]
theorem all_take_not {l : List Int} {i : Nat} (h1 : i < l.length) (hx : isV (l.getD i 0) = false) : ¬ l.all isV = true := by
  intro h
  rw [List.all_eq_true] at h
  have hm : l.getD i 0 ∈ l := by
    rw [List.getD_eq_getElem?_getD, List.getElem?_eq_getElem h1]
    exact List.getElem_mem h1
  rw [h _ hm] at hx
  cases hx

def fvalue_res (x : Int) : CRes := ⟨[], .one (.cel (.bool (isV x))), []⟩
def fvalue_go : List TV → List RowA → Option CRes := fun args rows =>
  match args, rows with
  | [.cel (.int .i64 x)], [] => some (fvalue_res x)
  | _, _ => none
def fvalue_e : Ent := ⟨41, [], fvalue_go⟩
set_option maxRecDepth 100000 in
theorem fvalue_tree (x : Int) : ((((decide ((-(1099511627776 : Int)) ≤ x)) && (decide (x ≤ (1099511627776 : Int)))) = (isV x))) = EXD Try.prog (conOf []) Try.f41 [.cel (.int .i64 x)] [] (fvalue_res x) := by kernel_rfl
theorem fvalue_holds (x : Int)  : (((decide ((-(1099511627776 : Int)) ≤ x)) && (decide (x ≤ (1099511627776 : Int)))) = (isV x)) := by
  rfl
theorem fvalue_ok : SoundEnt Try.prog fvalue_e := by
  refine ent_of_ex (Γ := (conOf [])) (conOf_sound snil) (by kernel_rfl) Try.func41 (by kernel_rfl) (by kernel_rfl) (fun args rows res h ho => ?_)
  change fvalue_go args rows = some res at h
  unfold fvalue_go at h
  split at h
  · simp only [Option.some.injEq] at h
    subst h
    skip
    exact EX.of (fvalue_tree _) (fvalue_holds _)
  · cases h
def flag_res (y : Int) (r : Int) (x : Int) (s : Int) : CRes := ⟨[], .tup [.agg [.int .i64 (lagY y r x s), .int .i64 (lagR y r x s)], .cel (.int .i64 (lagE y r x s))], []⟩
def flag_go : List TV → List RowA → Option CRes := fun args rows =>
  match args, rows with
  | [.agg [.int .i64 y, .int .i64 r], .cel (.int .i64 x), .cel (.int .i64 s)], [] => some (flag_res y r x s)
  | _, _ => none
def flag_e : Ent := ⟨14, [], flag_go⟩
set_option maxRecDepth 100000 in
theorem flag_tree (y : Int) (r : Int) (x : Int) (s : Int) : ((cnd ((decide (s < (0 : Int))) || (decide ((20 : Int) < s)))
  ((((0 : Int) = (lagY y r x s)) ∧ ((0 : Int) = (lagR y r x s))) ∧ ((2 : Int) = (lagE y r x s)))
  (cnd ((!(((!(isV y)) || (decide (r < (0 : Int)))) == Bool.false)) || (decide ((0 : Int) ≤ s)))
    (cnd (((!(isV y)) || (decide (r < (0 : Int)))) || (decide ((Go.IntKind.wrap Go.IntKind.i64 ((1 : Int) * ((2 : Int) ^ (Min.min (Int.toNat s) (Go.IntKind.bits Go.IntKind.i64))))) ≤ r)))
      ((((0 : Int) = (lagY y r x s)) ∧ ((0 : Int) = (lagR y r x s))) ∧ ((1 : Int) = (lagE y r x s)))
      (cnd (!(isV x))
        ((((0 : Int) = (lagY y r x s)) ∧ ((0 : Int) = (lagR y r x s))) ∧ ((2 : Int) = (lagE y r x s)))
        (cnd (decide ((0 : Int) ≤ s))
          (cnd (decide ((0 : Int) ≤ s))
            ((((Go.IntKind.wrap Go.IntKind.i64 (y + (Int.fdiv (Go.IntKind.wrap Go.IntKind.i64 ((Go.IntKind.wrap Go.IntKind.i64 (x - y)) + r)) ((2 : Int) ^ (Min.min (Int.toNat s) (Go.IntKind.bits Go.IntKind.i64)))))) = (lagY y r x s)) ∧ ((Go.IntKind.wrap Go.IntKind.i64 ((Go.IntKind.wrap Go.IntKind.i64 ((Go.IntKind.wrap Go.IntKind.i64 (x - y)) + r)) - (Go.IntKind.wrap Go.IntKind.i64 ((Int.fdiv (Go.IntKind.wrap Go.IntKind.i64 ((Go.IntKind.wrap Go.IntKind.i64 (x - y)) + r)) ((2 : Int) ^ (Min.min (Int.toNat s) (Go.IntKind.bits Go.IntKind.i64)))) * ((2 : Int) ^ (Min.min (Int.toNat s) (Go.IntKind.bits Go.IntKind.i64))))))) = (lagR y r x s))) ∧ ((0 : Int) = (lagE y r x s)))
            False)
          False)))
    False))) = EXD Try.prog (conOf [fvalue_e]) Try.f14 [.agg [.int .i64 y, .int .i64 r], .cel (.int .i64 x), .cel (.int .i64 s)] [] (flag_res y r x s) := by kernel_rfl
theorem flag_holds (y : Int) (r : Int) (x : Int) (s : Int)  : (cnd ((decide (s < (0 : Int))) || (decide ((20 : Int) < s)))
  ((((0 : Int) = (lagY y r x s)) ∧ ((0 : Int) = (lagR y r x s))) ∧ ((2 : Int) = (lagE y r x s)))
  (cnd ((!(((!(isV y)) || (decide (r < (0 : Int)))) == Bool.false)) || (decide ((0 : Int) ≤ s)))
    (cnd (((!(isV y)) || (decide (r < (0 : Int)))) || (decide ((Go.IntKind.wrap Go.IntKind.i64 ((1 : Int) * ((2 : Int) ^ (Min.min (Int.toNat s) (Go.IntKind.bits Go.IntKind.i64))))) ≤ r)))
      ((((0 : Int) = (lagY y r x s)) ∧ ((0 : Int) = (lagR y r x s))) ∧ ((1 : Int) = (lagE y r x s)))
      (cnd (!(isV x))
        ((((0 : Int) = (lagY y r x s)) ∧ ((0 : Int) = (lagR y r x s))) ∧ ((2 : Int) = (lagE y r x s)))
        (cnd (decide ((0 : Int) ≤ s))
          (cnd (decide ((0 : Int) ≤ s))
            ((((Go.IntKind.wrap Go.IntKind.i64 (y + (Int.fdiv (Go.IntKind.wrap Go.IntKind.i64 ((Go.IntKind.wrap Go.IntKind.i64 (x - y)) + r)) ((2 : Int) ^ (Min.min (Int.toNat s) (Go.IntKind.bits Go.IntKind.i64)))))) = (lagY y r x s)) ∧ ((Go.IntKind.wrap Go.IntKind.i64 ((Go.IntKind.wrap Go.IntKind.i64 ((Go.IntKind.wrap Go.IntKind.i64 (x - y)) + r)) - (Go.IntKind.wrap Go.IntKind.i64 ((Int.fdiv (Go.IntKind.wrap Go.IntKind.i64 ((Go.IntKind.wrap Go.IntKind.i64 (x - y)) + r)) ((2 : Int) ^ (Min.min (Int.toNat s) (Go.IntKind.bits Go.IntKind.i64)))) * ((2 : Int) ^ (Min.min (Int.toNat s) (Go.IntKind.bits Go.IntKind.i64))))))) = (lagR y r x s))) ∧ ((0 : Int) = (lagE y r x s)))
            False)
          False)))
    False)) := by
  by_cases hs : s < 0 ∨ 20 < s
  · have j : (decide (s < 0) || decide (20 < s)) = true := by simpa using hs
    have e : lagE y r x s = 2 := by unfold lagE; rw [if_pos hs]
    simp [j, cnd, lagY, lagR, e]
  · have j : (decide (s < 0) || decide (20 < s)) = false := by simp; omega
    have j2 : decide (0 ≤ s) = true := by simp; omega
    rw [pw_min (by omega)]
    obtain ⟨q1, q2⟩ := pw_bd (s := s) (by omega)
    rw [w64 (n := 1 * pw s) (by omega) (by omega), Int.one_mul, fdiv_pos (by omega)]
    simp only [j, j2, Bool.or_true, cnd]
    by_cases hv : isV y = true ∧ 0 ≤ r ∧ r < pw s
    · have j3 : ((!isV y || decide (r < 0)) || decide (pw s ≤ r)) = false := by simp [hv.1]; omega
      simp only [j3]
      cases hx : isV x with
      | false =>
        have e : lagE y r x s = 2 := by unfold lagE; rw [if_neg hs]; simp [hv, hx]
        simp [lagY, lagR, e]
      | true =>
        have e : lagE y r x s = 0 := lagE_zero.2 ⟨by omega, hv.1, hv.2.1, hv.2.2, hx⟩
        have h1 := isV_iff.1 hv.1
        have h2 := isV_iff.1 hx
        rw [w64 (n := x - y) (by omega) (by omega), w64 (n := x - y + r) (by omega) (by omega)]
        have h3 := Int.emod_add_mul_ediv (x - y + r) (pw s)
        have h4 := Int.emod_nonneg (x - y + r) (show pw s ≠ 0 by omega)
        have h5 := Int.emod_lt_of_pos (x - y + r) (show 0 < pw s by omega)
        have h6 : (x - y + r) / pw s * pw s = (x - y + r) - (x - y + r) % pw s := by rw [Int.mul_comm]; omega
        have h7 : -1000000000000000 ≤ (x - y + r) / pw s ∧ (x - y + r) / pw s ≤ 1000000000000000 := by
          constructor
          · refine Int.le_ediv_of_mul_le (by omega) ?_
            have := Int.mul_le_mul_of_nonneg_left q1 (show (0 : Int) ≤ 1000000000000000 by omega)
            rw [Int.neg_mul]; omega
          · refine Int.ediv_le_of_le_mul (by omega) ?_
            have := Int.mul_le_mul_of_nonneg_left q1 (show (0 : Int) ≤ 1000000000000000 by omega)
            omega
        rw [h6, w64 (n := (x - y + r) - (x - y + r) % pw s) (by omega) (by omega), w64 (n := y + (x - y + r) / pw s) (by omega) (by omega)]
        rw [show x - y + r - (x - y + r - (x - y + r) % pw s) = (x - y + r) % pw s by omega, w64 (by omega) (by omega)]
        simp [lagY, lagR, e]
    · have j3 : ((!isV y || decide (r < 0)) || decide (pw s ≤ r)) = true := by
        cases hy : isV y <;> simp [hy] at hv ⊢
        omega
      have e : lagE y r x s = 1 := by
        unfold lagE
        rw [if_neg hs, if_neg]
        intro h
        simp only [Bool.and_eq_true, decide_eq_true_eq] at h
        exact hv ⟨h.1.1, h.1.2, h.2⟩
      simp [j3, lagY, lagR, e]
theorem flag_ok : SoundEnt Try.prog flag_e := by
  refine ent_of_ex (Γ := (conOf [fvalue_e])) (conOf_sound (scons fvalue_ok snil)) (by kernel_rfl) Try.func14 (by kernel_rfl) (by kernel_rfl) (fun args rows res h ho => ?_)
  change flag_go args rows = some res at h
  unfold flag_go at h
  split at h
  · simp only [Option.some.injEq] at h
    subst h
    skip
    exact EX.of (flag_tree _ _ _ _) (flag_holds _ _ _ _)
  · cases h
def fadd_res (n : Int) (l : List Int) (x : Int) : CRes := ⟨[], .tup [.agg [.int .i64 (addN n l x), .row 1], .cel (.int .i64 (addE n l x))], [.ints .i64 (addL n l x)]⟩
def fadd_go : List TV → List RowA → Option CRes := fun args rows =>
  match args, rows with
  | [.agg [.int .i64 n, .row 0], .cel (.int .i64 x)], [.ints .i64 l] => some (fadd_res n l x)
  | _, _ => none
def fadd_e : Ent := ⟨45, [.ints .i64 []], fadd_go⟩
def fadd_L1_F (n : Int) (l : List Int) (x : Int) (i : Int) : St := ⟨65, [], [(29, (.one (.cel (.int .i64 i)))), (28, (.one (.cel (.int .i64 (((List.length l) : Nat) : Int))))), (27, (.one (.cel (.row 0)))), (5, (.one (.cel (.int .i64 (0 : Int))))), (4, (.one (.cel (.ptr 1 0)))), (2, (.one (.cel (.ptr 0 0)))), (1, (.one (.cel (.int .i64 x))))], [[(.int .i64 n), (.row 0)], [(.int .i64 (0 : Int)), .nilS]], [⟨(.ints .i64 l), none⟩]⟩
def fadd_L1_I (n : Int) (l : List Int) (x : Int) (i : Int) : Prop := (0 ≤ i ∧ i ≤ l.length ∧ 1 ≤ n ∧ n ≤ 15 ∧ (l.length : Int) ≤ n) ∧ ((l.take i.toNat).all isV = true)
def fadd_L1_m (n : Int) (l : List Int) (x : Int) (i : Int) : Nat := (l.length - i).toNat
def fadd_L1_N (n : Int) (l : List Int) (x : Int) (i' : Int) (st_ : St) : Prop := getI st_ 29 fun i => fadd_L1_I n l x i ∧ fadd_L1_m n l x i < fadd_L1_m n l x i' ∧ SubA st_ (fadd_L1_F n l x i)
def fadd_L1_E (n : Int) (l : List Int) (x : Int) (st_ : St) : Prop := getI st_ 29 fun i => fadd_L1_I n l x i ∧ SubA st_ (fadd_L1_F n l x i)
def fadd_L1_S1 (n : Int) (l : List Int) (x : Int) : St := ⟨65, [17, 12], [(29, (.one (.cel (.int .i64 (0 : Int))))), (28, (.one (.cel (.int .i64 (((List.length l) : Nat) : Int))))), (27, (.one (.cel (.row 0)))), (26, (.one (.cel (.ptr 0 1)))), (24, (.one (.cel (.bool (((decide (n < (1 : Int))) || (decide ((15 : Int) < n))) || (decide (n < (((List.length l) : Nat) : Int)))))))), (23, (.spec 17 Bool.false (.cel (.bool (decide (n < (((List.length l) : Nat) : Int))))))), (22, (.spec 17 Bool.false (.cel (.int .i64 n)))), (21, (.spec 17 Bool.false (.cel (.ptr 0 0)))), (20, (.spec 17 Bool.false (.cel (.int .i64 (((List.length l) : Nat) : Int))))), (19, (.spec 17 Bool.false (.cel (.row 0)))), (18, (.spec 17 Bool.false (.cel (.ptr 0 1)))), (17, (.one (.cel (.bool ((decide (n < (1 : Int))) || (decide ((15 : Int) < n))))))), (16, (.one (.cel (.bool ((decide (n < (1 : Int))) || (decide ((15 : Int) < n))))))), (15, (.spec 12 Bool.false (.cel (.bool (decide ((15 : Int) < n)))))), (14, (.spec 12 Bool.false (.cel (.int .i64 n)))), (13, (.spec 12 Bool.false (.cel (.ptr 0 0)))), (12, (.one (.cel (.bool (decide (n < (1 : Int))))))), (11, (.one (.cel (.bool (decide (n < (1 : Int))))))), (10, (.one (.cel (.int .i64 n)))), (9, (.one (.cel (.ptr 0 0)))), (5, (.one (.cel (.int .i64 (0 : Int))))), (4, (.one (.cel (.ptr 1 0)))), (2, (.one (.cel (.ptr 0 0)))), (0, (.one (.agg [(.int .i64 n), (.row 0)]))), (1, (.one (.cel (.int .i64 x))))], [[(.int .i64 n), (.row 0)], [(.int .i64 (0 : Int)), .nilS]], [⟨(.ints .i64 l), none⟩]⟩
def fadd_L1_T (n : Int) (l : List Int) (x : Int) (i : Int) : Prop := (cnd (decide (i < (((List.length l) : Nat) : Int)))
  (cnd (decide ((0 : Int) ≤ i))
    (cnd (decide (i < (((List.length l) : Nat) : Int)))
      (cnd (!(isV (List.getD l (Int.toNat i) (0 : Int))))
        (((((0 : Int) = (addN n l x)) ∧ True) ∧ ((1 : Int) = (addE n l x))) ∧ (((addL n l x) = []) ∧ True))
        ((fadd_L1_I n l x (Go.IntKind.wrap Go.IntKind.i64 (i + (1 : Int)))) ∧ (((fadd_L1_m n l x (Go.IntKind.wrap Go.IntKind.i64 (i + (1 : Int)))) < (fadd_L1_m n l x i)) ∧ (((Go.IntKind.wrap Go.IntKind.i64 (i + (1 : Int))) = (Go.IntKind.wrap Go.IntKind.i64 (i + (1 : Int)))) ∧ (((((List.length l) : Nat) : Int) = (((List.length l) : Nat) : Int)) ∧ (True ∧ (((0 : Int) = (0 : Int)) ∧ (True ∧ (True ∧ ((x = x) ∧ (((n = n) ∧ True) ∧ ((((0 : Int) = (0 : Int)) ∧ True) ∧ ((l = l) ∧ True)))))))))))))
      False)
    False)
  (cnd (!(isV x))
    (((((0 : Int) = (addN n l x)) ∧ True) ∧ ((2 : Int) = (addE n l x))) ∧ (((addL n l x) = []) ∧ True))
    (cnd (decide ((0 : Int) ≤ (Go.IntKind.wrap Go.IntKind.i64 ((((List.length l) : Nat) : Int) + (1 : Int)))))
      (cnd (Nat.ble (Int.toNat (Go.IntKind.wrap Go.IntKind.i64 ((((List.length l) : Nat) : Int) + (1 : Int)))) 4294967296)
        (cnd (decide ((Go.IntKind.wrap Go.IntKind.i64 ((((List.length l) : Nat) : Int) + (1 : Int))) = (Go.IntKind.wrap Go.IntKind.i64 ((((List.length l) : Nat) : Int) + (1 : Int)))))
          (cnd (decide ((((Min.min (List.length l) (List.length (List.replicate (Int.toNat (Go.IntKind.wrap Go.IntKind.i64 ((((List.length l) : Nat) : Int) + (1 : Int)))) (0 : Int)))) : Nat) : Int) < (((List.length ((List.take (List.length (List.replicate (Int.toNat (Go.IntKind.wrap Go.IntKind.i64 ((((List.length l) : Nat) : Int) + (1 : Int)))) (0 : Int))) l) ++ (List.drop (List.length l) (List.replicate (Int.toNat (Go.IntKind.wrap Go.IntKind.i64 ((((List.length l) : Nat) : Int) + (1 : Int)))) (0 : Int))))) : Nat) : Int)))
            (cnd (decide (n < (((List.length (List.set ((List.take (List.length (List.replicate (Int.toNat (Go.IntKind.wrap Go.IntKind.i64 ((((List.length l) : Nat) : Int) + (1 : Int)))) (0 : Int))) l) ++ (List.drop (List.length l) (List.replicate (Int.toNat (Go.IntKind.wrap Go.IntKind.i64 ((((List.length l) : Nat) : Int) + (1 : Int)))) (0 : Int)))) (Int.toNat (((Min.min (List.length l) (List.length (List.replicate (Int.toNat (Go.IntKind.wrap Go.IntKind.i64 ((((List.length l) : Nat) : Int) + (1 : Int)))) (0 : Int)))) : Nat) : Int)) x)) : Nat) : Int)))
              (cnd (decide ((1 : Int) ≤ (((List.length (List.set ((List.take (List.length (List.replicate (Int.toNat (Go.IntKind.wrap Go.IntKind.i64 ((((List.length l) : Nat) : Int) + (1 : Int)))) (0 : Int))) l) ++ (List.drop (List.length l) (List.replicate (Int.toNat (Go.IntKind.wrap Go.IntKind.i64 ((((List.length l) : Nat) : Int) + (1 : Int)))) (0 : Int)))) (Int.toNat (((Min.min (List.length l) (List.length (List.replicate (Int.toNat (Go.IntKind.wrap Go.IntKind.i64 ((((List.length l) : Nat) : Int) + (1 : Int)))) (0 : Int)))) : Nat) : Int)) x)) : Nat) : Int)))
                (cnd (decide ((((List.length (List.set ((List.take (List.length (List.replicate (Int.toNat (Go.IntKind.wrap Go.IntKind.i64 ((((List.length l) : Nat) : Int) + (1 : Int)))) (0 : Int))) l) ++ (List.drop (List.length l) (List.replicate (Int.toNat (Go.IntKind.wrap Go.IntKind.i64 ((((List.length l) : Nat) : Int) + (1 : Int)))) (0 : Int)))) (Int.toNat (((Min.min (List.length l) (List.length (List.replicate (Int.toNat (Go.IntKind.wrap Go.IntKind.i64 ((((List.length l) : Nat) : Int) + (1 : Int)))) (0 : Int)))) : Nat) : Int)) x)) : Nat) : Int) ≤ (((List.length (List.set ((List.take (List.length (List.replicate (Int.toNat (Go.IntKind.wrap Go.IntKind.i64 ((((List.length l) : Nat) : Int) + (1 : Int)))) (0 : Int))) l) ++ (List.drop (List.length l) (List.replicate (Int.toNat (Go.IntKind.wrap Go.IntKind.i64 ((((List.length l) : Nat) : Int) + (1 : Int)))) (0 : Int)))) (Int.toNat (((Min.min (List.length l) (List.length (List.replicate (Int.toNat (Go.IntKind.wrap Go.IntKind.i64 ((((List.length l) : Nat) : Int) + (1 : Int)))) (0 : Int)))) : Nat) : Int)) x)) : Nat) : Int)))
                  ((((n = (addN n l x)) ∧ True) ∧ ((0 : Int) = (addE n l x))) ∧ (((List.drop (Int.toNat (1 : Int)) (List.take (Int.toNat (((List.length (List.set ((List.take (List.length (List.replicate (Int.toNat (Go.IntKind.wrap Go.IntKind.i64 ((((List.length l) : Nat) : Int) + (1 : Int)))) (0 : Int))) l) ++ (List.drop (List.length l) (List.replicate (Int.toNat (Go.IntKind.wrap Go.IntKind.i64 ((((List.length l) : Nat) : Int) + (1 : Int)))) (0 : Int)))) (Int.toNat (((Min.min (List.length l) (List.length (List.replicate (Int.toNat (Go.IntKind.wrap Go.IntKind.i64 ((((List.length l) : Nat) : Int) + (1 : Int)))) (0 : Int)))) : Nat) : Int)) x)) : Nat) : Int)) (List.set ((List.take (List.length (List.replicate (Int.toNat (Go.IntKind.wrap Go.IntKind.i64 ((((List.length l) : Nat) : Int) + (1 : Int)))) (0 : Int))) l) ++ (List.drop (List.length l) (List.replicate (Int.toNat (Go.IntKind.wrap Go.IntKind.i64 ((((List.length l) : Nat) : Int) + (1 : Int)))) (0 : Int)))) (Int.toNat (((Min.min (List.length l) (List.length (List.replicate (Int.toNat (Go.IntKind.wrap Go.IntKind.i64 ((((List.length l) : Nat) : Int) + (1 : Int)))) (0 : Int)))) : Nat) : Int)) x))) = (addL n l x)) ∧ True))
                  False)
                False)
              ((((n = (addN n l x)) ∧ True) ∧ ((0 : Int) = (addE n l x))) ∧ (((List.set ((List.take (List.length (List.replicate (Int.toNat (Go.IntKind.wrap Go.IntKind.i64 ((((List.length l) : Nat) : Int) + (1 : Int)))) (0 : Int))) l) ++ (List.drop (List.length l) (List.replicate (Int.toNat (Go.IntKind.wrap Go.IntKind.i64 ((((List.length l) : Nat) : Int) + (1 : Int)))) (0 : Int)))) (Int.toNat (((Min.min (List.length l) (List.length (List.replicate (Int.toNat (Go.IntKind.wrap Go.IntKind.i64 ((((List.length l) : Nat) : Int) + (1 : Int)))) (0 : Int)))) : Nat) : Int)) x) = (addL n l x)) ∧ True)))
            False)
          False)
        False)
      False)))
set_option maxRecDepth 100000 in
theorem fadd_L1_tree (n : Int) (l : List Int) (x : Int) (i : Int) : fadd_L1_T n l x i = ex Try.prog (conOf [fvalue_e]) (subC (bodyOf Try.f45) [1, 1, 0, 1, 0, 0]) (nextE (fadd_L1_N n l x i) (kont Try.prog (conOf [fvalue_e]) (bodyOf Try.f45) [1, 1, 0, 1, 0] (retPost Try.prog Try.f45 1 (fadd_res n l x)))) (fadd_L1_F n l x i) := by kernel_rfl
set_option maxRecDepth 100000 in
theorem fadd_L1_round (n : Int) (l : List Int) (x : Int) (i : Int)  (hI_L1 : fadd_L1_I n l x i) : fadd_L1_T n l x i := by
  obtain ⟨⟨a1, a2, a3, a4, a5⟩, a6⟩ := hI_L1
  unfold fadd_L1_T
  have e1 : (IntKind.i64.wrap ((l.length : Int) + 1)) = ((l.length + 1 : Nat) : Int) := by rw [w64 (by omega) (by omega)]; omega
  rw [e1, w64 (n := i + 1) (by omega) (by omega)]
  simp only [Int.toNat_natCast, set_end]
  by_cases hl : i < l.length
  · have j1 : decide (0 ≤ i) = true := by simpa using a1
    simp only [hl, decide_true, j1, cnd]
    cases hx : isV (l.getD i.toNat 0) with
    | false =>
      have hn := all_take_not (l := l) (i := i.toNat) (by omega) hx
      have e : addE n l x = 1 := by unfold addE; rw [if_neg]; exact fun h => hn h.2.2.2
      simp [addN, addL, e]
    | true =>
      refine ⟨⟨⟨by omega, by omega, a3, a4, a5⟩, all_take a1 hl a6 hx⟩, ?_, by simp⟩
      unfold fadd_L1_m
      omega
  · have hall : l.all isV = true := by
      rw [List.take_of_length_le (by omega)] at a6
      exact a6
    have j0 : decide (i < (l.length : Int)) = false := by simpa using hl
    simp only [j0, cnd]
    cases hx : isV x with
    | false =>
      have e : addE n l x = 2 := by unfold addE; rw [if_pos ⟨a3, a4, a5, hall⟩, hx]; rfl
      simp [addN, addL, e]
    | true =>
      have e : addE n l x = 0 := addE_zero.2 ⟨⟨a3, a4, a5, hall⟩, hx⟩
      have j2 : decide ((0 : Int) ≤ ((l.length + 1 : Nat) : Int)) = true := by simp; omega
      have j3 : Nat.ble (l.length + 1) 4294967296 = true := Nat.ble_eq_true_of_le (by omega)
      have j4 : (decide (((min l.length (List.replicate (l.length + 1) (0 : Int)).length : Nat) : Int) < (((List.take (List.replicate (l.length + 1) (0 : Int)).length l ++ List.drop l.length (List.replicate (l.length + 1) (0 : Int))).length : Nat) : Int))) = true := by
        simp
        omega
      have j5 : decide ((1 : Int) ≤ (((l ++ [x]).length : Nat) : Int)) = true := by simp; omega
      simp only [Bool.not_true, j2, j3, j4, j5, decide_true, cnd, Int.le_refl]
      by_cases hn : n ≤ l.length
      · have j6 : decide (n < (((l ++ [x]).length : Nat) : Int)) = true := by simp; omega
        have e2 : Int.toNat 1 = 1 := rfl
        simp only [j6, List.take_length, e2]
        simp [addN, addL, e, hn]
      · have j6 : decide (n < (((l ++ [x]).length : Nat) : Int)) = false := by simp; omega
        simp only [j6]
        simp [addN, addL, e, hn]
set_option maxRecDepth 100000 in
theorem fadd_L1_entry1 (n : Int) (l : List Int) (x : Int) : (((fadd_L1_I n l x (0 : Int)) ∧ (((0 : Int) = (0 : Int)) ∧ (((((List.length l) : Nat) : Int) = (((List.length l) : Nat) : Int)) ∧ (True ∧ (((0 : Int) = (0 : Int)) ∧ (True ∧ (True ∧ ((x = x) ∧ (((n = n) ∧ True) ∧ ((((0 : Int) = (0 : Int)) ∧ True) ∧ ((l = l) ∧ True)))))))))))) = fadd_L1_E n l x (fadd_L1_S1 n l x) := by kernel_rfl
theorem fadd_L1_1 (n : Int) (l : List Int) (x : Int)  (h : ((fadd_L1_I n l x (0 : Int)) ∧ (((0 : Int) = (0 : Int)) ∧ (((((List.length l) : Nat) : Int) = (((List.length l) : Nat) : Int)) ∧ (True ∧ (((0 : Int) = (0 : Int)) ∧ (True ∧ (True ∧ ((x = x) ∧ (((n = n) ∧ True) ∧ ((((0 : Int) = (0 : Int)) ∧ True) ∧ ((l = l) ∧ True)))))))))))) : LoopP (ex Try.prog (conOf [fvalue_e]) (subC (bodyOf Try.f45) [1, 1, 0, 1, 0, 0])) (kont Try.prog (conOf [fvalue_e]) (bodyOf Try.f45) [1, 1, 0, 1, 0] (retPost Try.prog Try.f45 1 (fadd_res n l x))) (fadd_L1_S1 n l x) := by
  have hE : fadd_L1_E n l x (fadd_L1_S1 n l x) := Eq.mp (fadd_L1_entry1 n l x) h
  unfold fadd_L1_E at hE
  obtain ⟨i, hE⟩ := getI_of hE
  refine loop_of (α := (Int)) (fun xx_ => fadd_L1_F n l x xx_) (fun xx_ => fadd_L1_I n l x xx_) (fun xx_ => fadd_L1_m n l x xx_) (fun xx_ => fadd_L1_N n l x xx_) (fun xx_ => fadd_L1_T n l x xx_) (fun xx_ s_ h => ?_) ⟨i, hE⟩ (fun xx_ => fadd_L1_tree n l x xx_) (fun xx_ hI => fadd_L1_round n l x xx_  hI)
  unfold fadd_L1_N at h
  obtain ⟨i, h⟩ := getI_of h
  exact ⟨i, h⟩
set_option maxRecDepth 100000 in
theorem fadd_tree (n : Int) (l : List Int) (x : Int) : ((cnd (((decide (n < (1 : Int))) || (decide ((15 : Int) < n))) || (decide (n < (((List.length l) : Nat) : Int))))
  (((((0 : Int) = (addN n l x)) ∧ True) ∧ ((1 : Int) = (addE n l x))) ∧ (((addL n l x) = []) ∧ True))
  (LoopP (ex Try.prog (conOf [fvalue_e]) (subC (bodyOf Try.f45) [1, 1, 0, 1, 0, 0])) (kont Try.prog (conOf [fvalue_e]) (bodyOf Try.f45) [1, 1, 0, 1, 0] (retPost Try.prog Try.f45 1 (fadd_res n l x))) (fadd_L1_S1 n l x)))) = EXD Try.prog (conOf [fvalue_e]) Try.f45 [.agg [.int .i64 n, .row 0], .cel (.int .i64 x)] [.ints .i64 l] (fadd_res n l x) := by kernel_rfl
theorem fadd_holds (n : Int) (l : List Int) (x : Int)  : (cnd (((decide (n < (1 : Int))) || (decide ((15 : Int) < n))) || (decide (n < (((List.length l) : Nat) : Int))))
  (((((0 : Int) = (addN n l x)) ∧ True) ∧ ((1 : Int) = (addE n l x))) ∧ (((addL n l x) = []) ∧ True))
  (LoopP (ex Try.prog (conOf [fvalue_e]) (subC (bodyOf Try.f45) [1, 1, 0, 1, 0, 0])) (kont Try.prog (conOf [fvalue_e]) (bodyOf Try.f45) [1, 1, 0, 1, 0] (retPost Try.prog Try.f45 1 (fadd_res n l x))) (fadd_L1_S1 n l x))) := by
  by_cases hn : 1 ≤ n ∧ n ≤ 15 ∧ (l.length : Int) ≤ n
  · have j : ((decide (n < 1) || decide (15 < n)) || decide (n < (l.length : Int))) = false := by simp; omega
    simp only [j, cnd]
    exact fadd_L1_1 n l x ⟨⟨⟨by omega, by omega, hn.1, hn.2.1, hn.2.2⟩, by simp⟩, by simp⟩
  · have j : ((decide (n < 1) || decide (15 < n)) || decide (n < (l.length : Int))) = true := by simp; omega
    have e : addE n l x = 1 := by unfold addE; rw [if_neg]; exact fun h => hn ⟨h.1, h.2.1, h.2.2.1⟩
    simp [j, cnd, addN, addL, e]
theorem fadd_ok : SoundEnt Try.prog fadd_e := by
  refine ent_of_ex (Γ := (conOf [fvalue_e])) (conOf_sound (scons fvalue_ok snil)) (by kernel_rfl) Try.func45 (by kernel_rfl) (by kernel_rfl) (fun args rows res h ho => ?_)
  change fadd_go args rows = some res at h
  unfold fadd_go at h
  split at h
  · simp only [Option.some.injEq] at h
    subst h
    skip
    exact EX.of (fadd_tree _ _ _) (fadd_holds _ _ _)
  · cases h
def fvgain_res (p : Int) (i : Int) (lo : Int) (hi : Int) : CRes := ⟨[], .one (.cel (.bool (gainV p i lo hi))), []⟩
def fvgain_go : List TV → List RowA → Option CRes := fun args rows =>
  match args, rows with
  | [.agg [.int .i64 p, .int .i64 i, .int .i64 lo, .int .i64 hi]], [] => some (fvgain_res p i lo hi)
  | _, _ => none
def fvgain_e : Ent := ⟨21, [], fvgain_go⟩
set_option maxRecDepth 100000 in
theorem fvgain_tree (p : Int) (i : Int) (lo : Int) (hi : Int) : (((((((((decide ((0 : Int) ≤ p)) && (decide (p ≤ (65536 : Int)))) && (decide ((0 : Int) ≤ i))) && (decide (i ≤ (65536 : Int)))) && (decide ((-(1073741824 : Int)) ≤ lo))) && (decide (lo ≤ hi))) && (decide (hi ≤ (1073741824 : Int)))) = (gainV p i lo hi))) = EXD Try.prog (conOf []) Try.f21 [.agg [.int .i64 p, .int .i64 i, .int .i64 lo, .int .i64 hi]] [] (fvgain_res p i lo hi) := by kernel_rfl
theorem fvgain_holds (p : Int) (i : Int) (lo : Int) (hi : Int)  : ((((((((decide ((0 : Int) ≤ p)) && (decide (p ≤ (65536 : Int)))) && (decide ((0 : Int) ≤ i))) && (decide (i ≤ (65536 : Int)))) && (decide ((-(1073741824 : Int)) ≤ lo))) && (decide (lo ≤ hi))) && (decide (hi ≤ (1073741824 : Int)))) = (gainV p i lo hi)) := by
  rfl
theorem fvgain_ok : SoundEnt Try.prog fvgain_e := by
  refine ent_of_ex (Γ := (conOf [])) (conOf_sound snil) (by kernel_rfl) Try.func21 (by kernel_rfl) (by kernel_rfl) (fun args rows res h ho => ?_)
  change fvgain_go args rows = some res at h
  unfold fvgain_go at h
  split at h
  · simp only [Option.some.injEq] at h
    subst h
    skip
    exact EX.of (fvgain_tree _ _ _ _) (fvgain_holds _ _ _ _)
  · cases h
def fctl_res (m : Int) (p : Int) (i : Int) (lo : Int) (hi : Int) (e : Int) : CRes := ⟨[], .tup [.agg [.int .i64 (ctM m p i lo hi e)], .cel (.int .i64 (ctU m p i lo hi e)), .cel (.int .i64 (ctE m p i lo hi e))], []⟩
def fctl_go : List TV → List RowA → Option CRes := fun args rows =>
  match args, rows with
  | [.agg [.int .i64 m], .agg [.int .i64 p, .int .i64 i, .int .i64 lo, .int .i64 hi], .cel (.int .i64 e)], [] => some (fctl_res m p i lo hi e)
  | _, _ => none
def fctl_e : Ent := ⟨20, [], fctl_go⟩
set_option maxRecDepth 100000 in
theorem fctl_tree (m : Int) (p : Int) (i : Int) (lo : Int) (hi : Int) (e : Int) : ((cnd (((!(gainV p i lo hi)) || (decide (m < (-(4398046511104 : Int))))) || (decide ((4398046511104 : Int) < m)))
  (((0 : Int) = (ctM m p i lo hi e)) ∧ (((0 : Int) = (ctU m p i lo hi e)) ∧ ((1 : Int) = (ctE m p i lo hi e))))
  (cnd ((decide (e < (-(1048576 : Int)))) || (decide ((1048576 : Int) < e)))
    (((0 : Int) = (ctM m p i lo hi e)) ∧ (((0 : Int) = (ctU m p i lo hi e)) ∧ ((2 : Int) = (ctE m p i lo hi e))))
    (cnd (((decide ((Int.fdiv (Go.IntKind.wrap Go.IntKind.i64 ((Go.IntKind.wrap Go.IntKind.i64 (p * e)) + m)) ((2 : Int) ^ (Min.min (Int.toNat (10 : Int)) (Go.IntKind.bits Go.IntKind.i64)))) ≤ hi)) || (decide (e ≤ (0 : Int)))) && ((decide (lo ≤ (Int.fdiv (Go.IntKind.wrap Go.IntKind.i64 ((Go.IntKind.wrap Go.IntKind.i64 (p * e)) + m)) ((2 : Int) ^ (Min.min (Int.toNat (10 : Int)) (Go.IntKind.bits Go.IntKind.i64)))))) || (decide ((0 : Int) ≤ e))))
      ((((Min.min (Max.max (Go.IntKind.wrap Go.IntKind.i64 (m + (Go.IntKind.wrap Go.IntKind.i64 (i * e)))) (-(4398046511104 : Int))) (4398046511104 : Int)) = (ctM m p i lo hi e)) ∧ (((Min.min (Max.max (Int.fdiv (Go.IntKind.wrap Go.IntKind.i64 ((Go.IntKind.wrap Go.IntKind.i64 (p * e)) + m)) ((2 : Int) ^ (Min.min (Int.toNat (10 : Int)) (Go.IntKind.bits Go.IntKind.i64)))) lo) hi) = (ctU m p i lo hi e)) ∧ ((0 : Int) = (ctE m p i lo hi e)))) ∧ (((Min.min (Max.max (Go.IntKind.wrap Go.IntKind.i64 (m + (Go.IntKind.wrap Go.IntKind.i64 (i * e)))) (-(4398046511104 : Int))) (4398046511104 : Int)) = (ctM m p i lo hi e)) ∧ (((Min.min (Max.max (Int.fdiv (Go.IntKind.wrap Go.IntKind.i64 ((Go.IntKind.wrap Go.IntKind.i64 (p * e)) + m)) ((2 : Int) ^ (Min.min (Int.toNat (10 : Int)) (Go.IntKind.bits Go.IntKind.i64)))) lo) hi) = (ctU m p i lo hi e)) ∧ ((0 : Int) = (ctE m p i lo hi e)))))
      (((m = (ctM m p i lo hi e)) ∧ (((Min.min (Max.max (Int.fdiv (Go.IntKind.wrap Go.IntKind.i64 ((Go.IntKind.wrap Go.IntKind.i64 (p * e)) + m)) ((2 : Int) ^ (Min.min (Int.toNat (10 : Int)) (Go.IntKind.bits Go.IntKind.i64)))) lo) hi) = (ctU m p i lo hi e)) ∧ ((0 : Int) = (ctE m p i lo hi e)))) ∧ ((m = (ctM m p i lo hi e)) ∧ (((Min.min (Max.max (Int.fdiv (Go.IntKind.wrap Go.IntKind.i64 ((Go.IntKind.wrap Go.IntKind.i64 (p * e)) + m)) ((2 : Int) ^ (Min.min (Int.toNat (10 : Int)) (Go.IntKind.bits Go.IntKind.i64)))) lo) hi) = (ctU m p i lo hi e)) ∧ ((0 : Int) = (ctE m p i lo hi e))))))))) = EXD Try.prog (conOf [fvgain_e, clamp_e]) Try.f20 [.agg [.int .i64 m], .agg [.int .i64 p, .int .i64 i, .int .i64 lo, .int .i64 hi], .cel (.int .i64 e)] [] (fctl_res m p i lo hi e) := by kernel_rfl
theorem fctl_holds (m : Int) (p : Int) (i : Int) (lo : Int) (hi : Int) (e : Int)  : (cnd (((!(gainV p i lo hi)) || (decide (m < (-(4398046511104 : Int))))) || (decide ((4398046511104 : Int) < m)))
  (((0 : Int) = (ctM m p i lo hi e)) ∧ (((0 : Int) = (ctU m p i lo hi e)) ∧ ((1 : Int) = (ctE m p i lo hi e))))
  (cnd ((decide (e < (-(1048576 : Int)))) || (decide ((1048576 : Int) < e)))
    (((0 : Int) = (ctM m p i lo hi e)) ∧ (((0 : Int) = (ctU m p i lo hi e)) ∧ ((2 : Int) = (ctE m p i lo hi e))))
    (cnd (((decide ((Int.fdiv (Go.IntKind.wrap Go.IntKind.i64 ((Go.IntKind.wrap Go.IntKind.i64 (p * e)) + m)) ((2 : Int) ^ (Min.min (Int.toNat (10 : Int)) (Go.IntKind.bits Go.IntKind.i64)))) ≤ hi)) || (decide (e ≤ (0 : Int)))) && ((decide (lo ≤ (Int.fdiv (Go.IntKind.wrap Go.IntKind.i64 ((Go.IntKind.wrap Go.IntKind.i64 (p * e)) + m)) ((2 : Int) ^ (Min.min (Int.toNat (10 : Int)) (Go.IntKind.bits Go.IntKind.i64)))))) || (decide ((0 : Int) ≤ e))))
      ((((Min.min (Max.max (Go.IntKind.wrap Go.IntKind.i64 (m + (Go.IntKind.wrap Go.IntKind.i64 (i * e)))) (-(4398046511104 : Int))) (4398046511104 : Int)) = (ctM m p i lo hi e)) ∧ (((Min.min (Max.max (Int.fdiv (Go.IntKind.wrap Go.IntKind.i64 ((Go.IntKind.wrap Go.IntKind.i64 (p * e)) + m)) ((2 : Int) ^ (Min.min (Int.toNat (10 : Int)) (Go.IntKind.bits Go.IntKind.i64)))) lo) hi) = (ctU m p i lo hi e)) ∧ ((0 : Int) = (ctE m p i lo hi e)))) ∧ (((Min.min (Max.max (Go.IntKind.wrap Go.IntKind.i64 (m + (Go.IntKind.wrap Go.IntKind.i64 (i * e)))) (-(4398046511104 : Int))) (4398046511104 : Int)) = (ctM m p i lo hi e)) ∧ (((Min.min (Max.max (Int.fdiv (Go.IntKind.wrap Go.IntKind.i64 ((Go.IntKind.wrap Go.IntKind.i64 (p * e)) + m)) ((2 : Int) ^ (Min.min (Int.toNat (10 : Int)) (Go.IntKind.bits Go.IntKind.i64)))) lo) hi) = (ctU m p i lo hi e)) ∧ ((0 : Int) = (ctE m p i lo hi e)))))
      (((m = (ctM m p i lo hi e)) ∧ (((Min.min (Max.max (Int.fdiv (Go.IntKind.wrap Go.IntKind.i64 ((Go.IntKind.wrap Go.IntKind.i64 (p * e)) + m)) ((2 : Int) ^ (Min.min (Int.toNat (10 : Int)) (Go.IntKind.bits Go.IntKind.i64)))) lo) hi) = (ctU m p i lo hi e)) ∧ ((0 : Int) = (ctE m p i lo hi e)))) ∧ ((m = (ctM m p i lo hi e)) ∧ (((Min.min (Max.max (Int.fdiv (Go.IntKind.wrap Go.IntKind.i64 ((Go.IntKind.wrap Go.IntKind.i64 (p * e)) + m)) ((2 : Int) ^ (Min.min (Int.toNat (10 : Int)) (Go.IntKind.bits Go.IntKind.i64)))) lo) hi) = (ctU m p i lo hi e)) ∧ ((0 : Int) = (ctE m p i lo hi e)))))))) := by
  rw [show (2 : Int) ^ (min (Int.toNat 10) (IntKind.bits .i64)) = 1024 from rfl]
  by_cases hg : gainV p i lo hi = true ∧ sumV m = true
  · have hs := sumV_iff.1 hg.2
    have hgg := gainV_iff.1 hg.1
    have j1 : ((!gainV p i lo hi || decide (m < -4398046511104)) || decide (4398046511104 < m)) = false := by simp [hg.1]; omega
    simp only [j1, cnd]
    by_cases he : -1048576 ≤ e ∧ e ≤ 1048576
    · have hz : ctE m p i lo hi e = 0 := ctE_zero.2 ⟨hg.1, hg.2, he⟩
      have j2 : (decide (e < -1048576) || decide (1048576 < e)) = false := by simp; omega
      have b1 := mulB (p := p) (e := e) (A := 65536) (B := 1048576) (by omega) (by omega) (by omega) (by omega) (by omega)
      have b2 := mulB (p := i) (e := e) (A := 65536) (B := 1048576) (by omega) (by omega) (by omega) (by omega) (by omega)
      rw [w64 (n := p * e) (by omega) (by omega), w64 (n := i * e) (by omega) (by omega), w64 (n := p * e + m) (by omega) (by omega), w64 (n := m + i * e) (by omega) (by omega), fdiv_pos (by decide)]
      simp only [j2]
      change cnd (ctG m p lo hi e) _ _
      cases hq : ctG m p lo hi e <;> simp [cnd, ctM, ctU, hz, hq, ctF]
    · have hz : ctE m p i lo hi e = 2 := by unfold ctE; rw [if_pos (by simp [hg]), if_neg he]
      have j2 : (decide (e < -1048576) || decide (1048576 < e)) = true := by simp; omega
      simp [j2, ctM, ctU, hz]
  · have j1 : ((!gainV p i lo hi || decide (m < -4398046511104)) || decide (4398046511104 < m)) = true := by
      cases h1 : gainV p i lo hi
      · simp
      · have : ¬ sumV m = true := fun h => hg ⟨h1, h⟩
        rw [sumV_iff] at this
        simp; omega
    have hz : ctE m p i lo hi e = 1 := by
      unfold ctE
      rw [if_neg]
      simpa using hg
    simp [j1, cnd, ctM, ctU, hz]
theorem fctl_ok : SoundEnt Try.prog fctl_e := by
  refine ent_of_ex (Γ := (conOf [fvgain_e, clamp_e])) (conOf_sound (scons fvgain_ok (scons clamp_ok snil))) (by kernel_rfl) Try.func20 (by kernel_rfl) (by kernel_rfl) (fun args rows res h ho => ?_)
  change fctl_go args rows = some res at h
  unfold fctl_go at h
  split at h
  · simp only [Option.some.injEq] at h
    subst h
    skip
    exact EX.of (fctl_tree _ _ _ _ _ _) (fctl_holds _ _ _ _ _ _)
  · cases h
def frate_res (y : Int) (x : Int) (u : Int) (d : Int) : CRes := ⟨[], .tup [.cel (.int .i64 (rtZ y x u d)), .cel (.int .i64 (rtE y x u d))], []⟩
def frate_go : List TV → List RowA → Option CRes := fun args rows =>
  match args, rows with
  | [.cel (.int .i64 y), .cel (.int .i64 x), .cel (.int .i64 u), .cel (.int .i64 d)], [] => some (frate_res y x u d)
  | _, _ => none
def frate_e : Ent := ⟨18, [], frate_go⟩
set_option maxRecDepth 100000 in
theorem frate_tree (y : Int) (x : Int) (u : Int) (d : Int) : ((cnd ((((decide (u < (0 : Int))) || (decide ((1099511627776 : Int) < u))) || (decide (d < (0 : Int)))) || (decide ((1099511627776 : Int) < d)))
  (((0 : Int) = (rtZ y x u d)) ∧ ((1 : Int) = (rtE y x u d)))
  (cnd ((!(isV y)) || (!(isV x)))
    (((0 : Int) = (rtZ y x u d)) ∧ ((2 : Int) = (rtE y x u d)))
    (((Min.min (Max.max x (Go.IntKind.wrap Go.IntKind.i64 (y - d))) (Go.IntKind.wrap Go.IntKind.i64 (y + u))) = (rtZ y x u d)) ∧ ((0 : Int) = (rtE y x u d)))))) = EXD Try.prog (conOf [fvalue_e, clamp_e]) Try.f18 [.cel (.int .i64 y), .cel (.int .i64 x), .cel (.int .i64 u), .cel (.int .i64 d)] [] (frate_res y x u d) := by kernel_rfl
theorem frate_holds (y : Int) (x : Int) (u : Int) (d : Int)  : (cnd ((((decide (u < (0 : Int))) || (decide ((1099511627776 : Int) < u))) || (decide (d < (0 : Int)))) || (decide ((1099511627776 : Int) < d)))
  (((0 : Int) = (rtZ y x u d)) ∧ ((1 : Int) = (rtE y x u d)))
  (cnd ((!(isV y)) || (!(isV x)))
    (((0 : Int) = (rtZ y x u d)) ∧ ((2 : Int) = (rtE y x u d)))
    (((Min.min (Max.max x (Go.IntKind.wrap Go.IntKind.i64 (y - d))) (Go.IntKind.wrap Go.IntKind.i64 (y + u))) = (rtZ y x u d)) ∧ ((0 : Int) = (rtE y x u d))))) := by
  by_cases hu : (0 ≤ u ∧ u ≤ 1099511627776) ∧ (0 ≤ d ∧ d ≤ 1099511627776)
  · have j1 : (((decide (u < 0) || decide (1099511627776 < u)) || decide (d < 0)) || decide (1099511627776 < d)) = false := by simp; omega
    simp only [j1, cnd]
    by_cases hv : isV y = true ∧ isV x = true
    · have hz : rtE y x u d = 0 := rtE_zero.2 ⟨hu.1, hu.2, hv⟩
      have h1 := isV_iff.1 hv.1
      rw [w64 (n := y - d) (by omega) (by omega), w64 (n := y + u) (by omega) (by omega)]
      simp [hv, rtZ, hz]
    · have hz : rtE y x u d = 2 := by unfold rtE; rw [if_neg (by omega), if_neg (by simpa using hv)]
      have j2 : (!isV y || !isV x) = true := by cases h1 : isV y <;> cases h2 : isV x <;> simp [h1, h2] at hv ⊢
      simp [j2, rtZ, hz]
  · have j1 : (((decide (u < 0) || decide (1099511627776 < u)) || decide (d < 0)) || decide (1099511627776 < d)) = true := by simp; omega
    have hz : rtE y x u d = 1 := by unfold rtE; rw [if_pos (by omega)]
    simp [j1, cnd, rtZ, hz]
theorem frate_ok : SoundEnt Try.prog frate_e := by
  refine ent_of_ex (Γ := (conOf [fvalue_e, clamp_e])) (conOf_sound (scons fvalue_ok (scons clamp_ok snil))) (by kernel_rfl) Try.func18 (by kernel_rfl) (by kernel_rfl) (fun args rows res h ho => ?_)
  change frate_go args rows = some res at h
  unfold frate_go at h
  split at h
  · simp only [Option.some.injEq] at h
    subst h
    skip
    exact EX.of (frate_tree _ _ _ _) (frate_holds _ _ _ _)
  · cases h
end Go.Proofs.Ytoflhcdhgkbdcaa

