/- Filters: the laws of lags. -/
import Derived.Test.YtoflhcdhgkbdcaaF2
namespace Go.Proofs.Ytoflhcdhgkbdcaa
set_option linter.unusedVariables false
set_option linter.unusedSimpArgs false
open Go.RowKit

def rD (d : Int) : Int := Int.tmod (IntKind.i64.wrap d) 201
def rK (s : Int) : Int := Int.tmod (IntKind.i64.wrap s) 7
theorem rD_bd (d : Int) : -200 ≤ rD d ∧ rD d ≤ 200 := by
  unfold rD
  have h1 := Int.tmod_lt_of_pos (IntKind.i64.wrap d) (show (0 : Int) < 201 by omega)
  have h2 : -201 < Int.tmod (IntKind.i64.wrap d) 201 := Int.lt_tmod_of_pos _ (by omega)
  omega
theorem rK_bd {s : Int} (h : 0 ≤ s ∧ s ≤ 255) : 0 ≤ rK s ∧ rK s ≤ 6 := by
  unfold rK
  rw [w64 (by omega) (by omega), show Int.tmod s 7 = s % 7 from tmod_pos h.1]
  omega
theorem pw_cases {k : Int} (h0 : 0 ≤ k) (h1 : k ≤ 6) : pw k = 1 ∨ pw k = 2 ∨ pw k = 4 ∨ pw k = 8 ∨ pw k = 16 ∨ pw k = 32 ∨ pw k = 64 := by
  have : k = 0 ∨ k = 1 ∨ k = 2 ∨ k = 3 ∨ k = 4 ∨ k = 5 ∨ k = 6 := by omega
  rcases this with rfl | rfl | rfl | rfl | rfl | rfl | rfl <;> decide
/-- What holds after i steps. -/
def rInv (y D p i yy rr : Int) : Prop := (0 ≤ rr ∧ rr < p) ∧ ((yy = y + D) ∨ (0 < D ∧ y ≤ yy ∧ yy < y + D ∧ (y + D - yy) * p - rr ≤ D * p - i) ∨ (D < 0 ∧ yy ≤ y ∧ y + D < yy ∧ D * p - p + 1 + i ≤ (y + D - yy) * p - rr))
theorem rInv_start {y D p r : Int} (h : 0 ≤ r ∧ r < p) : rInv y D p 0 y r := by
  refine ⟨h, ?_⟩
  have e : y + D - y = D := by omega
  rw [e]
  rcases Int.lt_trichotomy D 0 with h1 | h1 | h1
  · exact .inr (.inr ⟨h1, by omega, by omega, by omega⟩)
  · exact .inl (by omega)
  · exact .inr (.inl ⟨h1, by omega, by omega, by omega⟩)
theorem rInv_step {y D p i yy rr : Int} (hp : p = 1 ∨ p = 2 ∨ p = 4 ∨ p = 8 ∨ p = 16 ∨ p = 32 ∨ p = 64) (hi : 0 ≤ i) (h : rInv y D p i yy rr) :
    rInv y D p (i + 1) (yy + (y + D - yy + rr) / p) ((y + D - yy + rr) % p) ∧ min yy (y + D) ≤ yy + (y + D - yy + rr) / p ∧ yy + (y + D - yy + rr) / p ≤ max yy (y + D) ∧ 0 ≤ (y + D - yy + rr) % p ∧ (y + D - yy + rr) % p < p ∧ (yy = y + D → yy + (y + D - yy + rr) / p = yy ∧ (y + D - yy + rr) % p = rr) := by
  unfold rInv at *
  rcases hp with rfl | rfl | rfl | rfl | rfl | rfl | rfl <;> omega
theorem rInv_end {y D p yy rr : Int} (hp : p = 1 ∨ p = 2 ∨ p = 4 ∨ p = 8 ∨ p = 16 ∨ p = 32 ∨ p = 64) (h : rInv y D p ((max D (-D) + 1) * p) yy rr) : yy = y + D := by
  unfold rInv at h
  rcases hp with rfl | rfl | rfl | rfl | rfl | rfl | rfl <;> omega
theorem rInv_in {y D p i yy rr : Int} (h : rInv y D p i yy rr) (hD : -200 ≤ D ∧ D ≤ 200) (hy : -1099511625776 ≤ y ∧ y ≤ 1099511625776) : isV yy = true := by
  unfold rInv at h
  rw [isV_iff]
  omega

def lags_res (y : Int) (r : Int) (x : Int) (s : Int) : CRes := ⟨[wfI .i64 y, wfI .i64 r, wfI .i64 x, wfI .i64 s], .one (.cel (.bool (true))), []⟩
def lags_go : List TV → List RowA → Option CRes := fun args rows =>
  match args, rows with
  | [.agg [.int .i64 y, .int .i64 r], .cel (.int .i64 x), .cel (.int .i64 s)], [] => some (lags_res y r x s)
  | _, _ => none
def lags_e : Ent := ⟨3, [], lags_go⟩
set_option maxRecDepth 100000 in
theorem lags_tree (y : Int) (r : Int) (x : Int) (s : Int) : ((cnd ((!(((decide (s < (0 : Int))) || (decide ((20 : Int) < s))) == Bool.false)) || (decide ((0 : Int) ≤ s)))
  (cnd ((!(((decide (s < (0 : Int))) || (decide ((20 : Int) < s))) == Bool.false)) || (decide (s ≤ (20 : Int))))
    (cnd (((decide (s < (0 : Int))) || (decide ((20 : Int) < s))) || ((((isV y) && (decide ((0 : Int) ≤ r))) && (decide (r < (pw s)))) && (!(isV x))))
      (((decide ((lagE y r x s) = (2 : Int))) && ((decide ((lagY y r x s) = (0 : Int))) && ((decide ((lagR y r x s) = (0 : Int))) && Bool.true))) = Bool.true)
      (cnd (decide ((0 : Int) ≤ s))
        (cnd (decide (s ≤ (20 : Int)))
          (cnd (!(((isV y) && (decide ((0 : Int) ≤ r))) && (decide (r < (pw s)))))
            (((decide ((lagE y r x s) = (1 : Int))) && ((decide ((lagY y r x s) = (0 : Int))) && ((decide ((lagR y r x s) = (0 : Int))) && Bool.true))) = Bool.true)
            (cnd ((!((decide ((lagE y r x s) = (0 : Int))) == Bool.true)) || (decide ((lagE y r x s) = (0 : Int))))
              (((decide ((lagE y r x s) = (0 : Int))) && ((decide ((lagY y r x s) = (lagY y r x s))) && ((decide ((lagR y r x s) = (lagR y r x s))) && Bool.true))) = Bool.true)
              False))
          False)
        False))
    False)
  False)) = EXD Try.prog (conOf [awake_e, flag_e, rvlag_e, rvalue_e, rlag_e]) Try.f3 [.agg [.int .i64 y, .int .i64 r], .cel (.int .i64 x), .cel (.int .i64 s)] [] (lags_res y r x s) := by kernel_rfl
theorem lags_holds (y : Int) (r : Int) (x : Int) (s : Int) (p0 : wfI .i64 y = true) (p1 : wfI .i64 r = true) (p2 : wfI .i64 x = true) (p3 : wfI .i64 s = true) : (cnd ((!(((decide (s < (0 : Int))) || (decide ((20 : Int) < s))) == Bool.false)) || (decide ((0 : Int) ≤ s)))
  (cnd ((!(((decide (s < (0 : Int))) || (decide ((20 : Int) < s))) == Bool.false)) || (decide (s ≤ (20 : Int))))
    (cnd (((decide (s < (0 : Int))) || (decide ((20 : Int) < s))) || ((((isV y) && (decide ((0 : Int) ≤ r))) && (decide (r < (pw s)))) && (!(isV x))))
      (((decide ((lagE y r x s) = (2 : Int))) && ((decide ((lagY y r x s) = (0 : Int))) && ((decide ((lagR y r x s) = (0 : Int))) && Bool.true))) = Bool.true)
      (cnd (decide ((0 : Int) ≤ s))
        (cnd (decide (s ≤ (20 : Int)))
          (cnd (!(((isV y) && (decide ((0 : Int) ≤ r))) && (decide (r < (pw s)))))
            (((decide ((lagE y r x s) = (1 : Int))) && ((decide ((lagY y r x s) = (0 : Int))) && ((decide ((lagR y r x s) = (0 : Int))) && Bool.true))) = Bool.true)
            (cnd ((!((decide ((lagE y r x s) = (0 : Int))) == Bool.true)) || (decide ((lagE y r x s) = (0 : Int))))
              (((decide ((lagE y r x s) = (0 : Int))) && ((decide ((lagY y r x s) = (lagY y r x s))) && ((decide ((lagR y r x s) = (lagR y r x s))) && Bool.true))) = Bool.true)
              False))
          False)
        False))
    False)
  False) := by
  by_cases hs : s < 0 ∨ 20 < s
  · have j : (decide (s < 0) || decide (20 < s)) = true := by simpa using hs
    have e : lagE y r x s = 2 := by unfold lagE; rw [if_pos hs]
    simp [j, cnd, lagY, lagR, e]
  · have j : (decide (s < 0) || decide (20 < s)) = false := by simp; omega
    have j1 : decide (0 ≤ s) = true := by simp; omega
    have j2 : decide (s ≤ 20) = true := by simp; omega
    simp only [j, j1, j2, Bool.or_true, cnd, Bool.false_or]
    cases hv : (isV y && decide (0 ≤ r) && decide (r < pw s)) with
    | false =>
      have e : lagE y r x s = 1 := by unfold lagE; rw [if_neg hs, hv]; rfl
      simp [e, lagY, lagR]
    | true =>
      cases hx : isV x with
      | false =>
        have e : lagE y r x s = 2 := by unfold lagE; rw [if_neg hs, hv, hx]; rfl
        simp [e, lagY, lagR]
      | true =>
        have e : lagE y r x s = 0 := by unfold lagE; rw [if_neg hs, hv, hx]; rfl
        simp [e]
theorem lags_ok : SoundEnt Try.prog lags_e := by
  refine ent_of_ex (Γ := (conOf [awake_e, flag_e, rvlag_e, rvalue_e, rlag_e])) (conOf_sound (scons awake_ok (scons flag_ok (scons rvlag_ok (scons rvalue_ok (scons rlag_ok snil)))))) (by kernel_rfl) Try.func3 (by kernel_rfl) (by kernel_rfl) (fun args rows res h ho => ?_)
  change lags_go args rows = some res at h
  unfold lags_go at h
  split at h
  · simp only [Option.some.injEq] at h
    subst h
    obtain ⟨p0, p1, p2, p3, _⟩ := ho
    exact EX.of (lags_tree _ _ _ _) (lags_holds _ _ _ _ p0 p1 p2 p3)
  · cases h
def reaches_res (y : Int) (r : Int) (d : Int) (s : Int) : CRes := ⟨[wfI .i64 y, wfI .i64 r, wfI .i16 d, wfI .u8 s], .one (.cel (.bool (true))), []⟩
def reaches_go : List TV → List RowA → Option CRes := fun args rows =>
  match args, rows with
  | [.agg [.int .i64 y, .int .i64 r], .cel (.int .i16 d), .cel (.int .u8 s)], [] => some (reaches_res y r d s)
  | _, _ => none
def reaches_e : Ent := ⟨4, [], reaches_go⟩
def reaches_L1_F (y : Int) (r : Int) (d : Int) (s : Int) (i : Int) (yy : Int) (rr : Int) : St := ⟨102, [], [(46, (.one (.cel (.int .i64 i)))), (45, (.one (.cel (.int .i64 (Go.IntKind.wrap Go.IntKind.i64 ((Go.IntKind.wrap Go.IntKind.i64 ((gmax (Int.tmod (Go.IntKind.wrap Go.IntKind.i64 d) (201 : Int)) (Go.IntKind.wrap Go.IntKind.i64 ((0 : Int) - (Int.tmod (Go.IntKind.wrap Go.IntKind.i64 d) (201 : Int))))) + (1 : Int))) * (Go.IntKind.wrap Go.IntKind.i64 ((1 : Int) * ((2 : Int) ^ (Min.min (Int.toNat (Int.tmod (Go.IntKind.wrap Go.IntKind.i64 s) (7 : Int))) (Go.IntKind.bits Go.IntKind.i64))))))))))), (9, (.one (.cel (.int .i64 (Go.IntKind.wrap Go.IntKind.i64 (y + (Int.tmod (Go.IntKind.wrap Go.IntKind.i64 d) (201 : Int)))))))), (7, (.one (.cel (.int .i64 (Int.tmod (Go.IntKind.wrap Go.IntKind.i64 s) (7 : Int)))))), (6, (.one (.cel (.bool Bool.false)))), (3, (.one (.cel (.ptr 0 0))))], [[(.int .i64 yy), (.int .i64 rr)]], []⟩
def reaches_L1_I (y : Int) (r : Int) (d : Int) (s : Int) (i : Int) (yy : Int) (rr : Int) : Prop := (0 ≤ i ∧ i ≤ (max (rD d) (-(rD d)) + 1) * pw (rK s)) ∧ (-1099511625776 ≤ y ∧ y ≤ 1099511625776) ∧ (rInv y (rD d) (pw (rK s)) i yy rr)
def reaches_L1_m (y : Int) (r : Int) (d : Int) (s : Int) (i : Int) (yy : Int) (rr : Int) : Nat := ((max (rD d) (-(rD d)) + 1) * pw (rK s) - i).toNat
def reaches_L1_N (y : Int) (r : Int) (d : Int) (s : Int) (i' : Int) (yy' : Int) (rr' : Int) (st_ : St) : Prop := getI st_ 46 fun i => getCI st_ 0 0 fun yy => getCI st_ 0 1 fun rr => reaches_L1_I y r d s i yy rr ∧ reaches_L1_m y r d s i yy rr < reaches_L1_m y r d s i' yy' rr' ∧ SubA st_ (reaches_L1_F y r d s i yy rr)
def reaches_L1_E (y : Int) (r : Int) (d : Int) (s : Int) (st_ : St) : Prop := getI st_ 46 fun i => getCI st_ 0 0 fun yy => getCI st_ 0 1 fun rr => reaches_L1_I y r d s i yy rr ∧ SubA st_ (reaches_L1_F y r d s i yy rr)
def reaches_L1_S1 (y : Int) (r : Int) (d : Int) (s : Int) : St := ⟨102, [29, 24], [(46, (.one (.cel (.int .i64 (0 : Int))))), (45, (.one (.cel (.int .i64 (Go.IntKind.wrap Go.IntKind.i64 ((Go.IntKind.wrap Go.IntKind.i64 ((gmax (Int.tmod (Go.IntKind.wrap Go.IntKind.i64 d) (201 : Int)) (Go.IntKind.wrap Go.IntKind.i64 ((0 : Int) - (Int.tmod (Go.IntKind.wrap Go.IntKind.i64 d) (201 : Int))))) + (1 : Int))) * (Go.IntKind.wrap Go.IntKind.i64 ((1 : Int) * ((2 : Int) ^ (Min.min (Int.toNat (Int.tmod (Go.IntKind.wrap Go.IntKind.i64 s) (7 : Int))) (Go.IntKind.bits Go.IntKind.i64))))))))))), (44, (.one (.cel (.int .i64 (Go.IntKind.wrap Go.IntKind.i64 ((1 : Int) * ((2 : Int) ^ (Min.min (Int.toNat (Int.tmod (Go.IntKind.wrap Go.IntKind.i64 s) (7 : Int))) (Go.IntKind.bits Go.IntKind.i64))))))))), (43, (.one (.cel (.int .i64 (Int.tmod (Go.IntKind.wrap Go.IntKind.i64 s) (7 : Int)))))), (42, (.one (.cel (.int .i64 (Go.IntKind.wrap Go.IntKind.i64 ((gmax (Int.tmod (Go.IntKind.wrap Go.IntKind.i64 d) (201 : Int)) (Go.IntKind.wrap Go.IntKind.i64 ((0 : Int) - (Int.tmod (Go.IntKind.wrap Go.IntKind.i64 d) (201 : Int))))) + (1 : Int))))))), (41, (.one (.cel (.int .i64 (gmax (Int.tmod (Go.IntKind.wrap Go.IntKind.i64 d) (201 : Int)) (Go.IntKind.wrap Go.IntKind.i64 ((0 : Int) - (Int.tmod (Go.IntKind.wrap Go.IntKind.i64 d) (201 : Int))))))))), (40, (.one (.cel (.int .i64 (Go.IntKind.wrap Go.IntKind.i64 ((0 : Int) - (Int.tmod (Go.IntKind.wrap Go.IntKind.i64 d) (201 : Int)))))))), (39, (.one (.cel (.int .i64 (Int.tmod (Go.IntKind.wrap Go.IntKind.i64 d) (201 : Int)))))), (38, (.one (.cel (.int .i64 (Int.tmod (Go.IntKind.wrap Go.IntKind.i64 d) (201 : Int)))))), (9, (.one (.cel (.int .i64 (Go.IntKind.wrap Go.IntKind.i64 (y + (Int.tmod (Go.IntKind.wrap Go.IntKind.i64 d) (201 : Int)))))))), (37, (.one (.cel (.int .i64 (Go.IntKind.wrap Go.IntKind.i64 (y + (Int.tmod (Go.IntKind.wrap Go.IntKind.i64 d) (201 : Int)))))))), (36, (.one (.cel (.int .i64 (Int.tmod (Go.IntKind.wrap Go.IntKind.i64 d) (201 : Int)))))), (35, (.one (.cel (.int .i64 y)))), (34, (.one (.cel (.ptr 0 0)))), (33, (.one (.cel (.bool (((!(((isV y) && (decide ((0 : Int) ≤ r))) && (decide (r < (pw (Int.tmod (Go.IntKind.wrap Go.IntKind.i64 s) (7 : Int))))))) || (decide ((1099511625776 : Int) < y))) || (decide (y < (-(1099511625776 : Int))))))))), (32, (.spec 29 Bool.false (.cel (.bool (decide (y < (-(1099511625776 : Int)))))))), (31, (.spec 29 Bool.false (.cel (.int .i64 y)))), (30, (.spec 29 Bool.false (.cel (.ptr 0 0)))), (29, (.one (.cel (.bool ((!(((isV y) && (decide ((0 : Int) ≤ r))) && (decide (r < (pw (Int.tmod (Go.IntKind.wrap Go.IntKind.i64 s) (7 : Int))))))) || (decide ((1099511625776 : Int) < y))))))), (28, (.one (.cel (.bool ((!(((isV y) && (decide ((0 : Int) ≤ r))) && (decide (r < (pw (Int.tmod (Go.IntKind.wrap Go.IntKind.i64 s) (7 : Int))))))) || (decide ((1099511625776 : Int) < y))))))), (27, (.spec 24 Bool.false (.cel (.bool (decide ((1099511625776 : Int) < y)))))), (26, (.spec 24 Bool.false (.cel (.int .i64 y)))), (25, (.spec 24 Bool.false (.cel (.ptr 0 0)))), (24, (.one (.cel (.bool (!(((isV y) && (decide ((0 : Int) ≤ r))) && (decide (r < (pw (Int.tmod (Go.IntKind.wrap Go.IntKind.i64 s) (7 : Int))))))))))), (23, (.one (.cel (.bool (!(((isV y) && (decide ((0 : Int) ≤ r))) && (decide (r < (pw (Int.tmod (Go.IntKind.wrap Go.IntKind.i64 s) (7 : Int))))))))))), (22, (.one (.cel (.bool (((isV y) && (decide ((0 : Int) ≤ r))) && (decide (r < (pw (Int.tmod (Go.IntKind.wrap Go.IntKind.i64 s) (7 : Int)))))))))), (21, (.one (.cel (.int .i64 (Int.tmod (Go.IntKind.wrap Go.IntKind.i64 s) (7 : Int)))))), (20, (.one (.agg [(.int .i64 y), (.int .i64 r)]))), (8, (.one (.cel (.int .i64 (Int.tmod (Go.IntKind.wrap Go.IntKind.i64 d) (201 : Int)))))), (7, (.one (.cel (.int .i64 (Int.tmod (Go.IntKind.wrap Go.IntKind.i64 s) (7 : Int)))))), (19, (.one (.cel (.int .i64 (Int.tmod (Go.IntKind.wrap Go.IntKind.i64 d) (201 : Int)))))), (18, (.one (.cel (.int .i64 (Go.IntKind.wrap Go.IntKind.i64 d))))), (17, (.one (.cel (.int .i16 d)))), (16, (.one (.cel (.int .i64 (Int.tmod (Go.IntKind.wrap Go.IntKind.i64 s) (7 : Int)))))), (15, (.one (.cel (.int .i64 (Go.IntKind.wrap Go.IntKind.i64 s))))), (14, (.one (.cel (.int .u8 s)))), (13, (.one (.cel (.bool (!Bool.true))))), (12, (.one (.cel (.bool Bool.true)))), (6, (.one (.cel (.bool Bool.false)))), (3, (.one (.cel (.ptr 0 0)))), (0, (.one (.agg [(.int .i64 y), (.int .i64 r)]))), (1, (.one (.cel (.int .i16 d)))), (2, (.one (.cel (.int .u8 s))))], [[(.int .i64 y), (.int .i64 r)]], []⟩
def reaches_L1_T (y : Int) (r : Int) (d : Int) (s : Int) (i : Int) (yy : Int) (rr : Int) : Prop := (cnd (decide (i < (Go.IntKind.wrap Go.IntKind.i64 ((Go.IntKind.wrap Go.IntKind.i64 ((gmax (Int.tmod (Go.IntKind.wrap Go.IntKind.i64 d) (201 : Int)) (Go.IntKind.wrap Go.IntKind.i64 ((0 : Int) - (Int.tmod (Go.IntKind.wrap Go.IntKind.i64 d) (201 : Int))))) + (1 : Int))) * (Go.IntKind.wrap Go.IntKind.i64 ((1 : Int) * ((2 : Int) ^ (Min.min (Int.toNat (Int.tmod (Go.IntKind.wrap Go.IntKind.i64 s) (7 : Int))) (Go.IntKind.bits Go.IntKind.i64)))))))))
  (cnd ((!(((((!(decide ((lagE yy rr (Go.IntKind.wrap Go.IntKind.i64 (y + (Int.tmod (Go.IntKind.wrap Go.IntKind.i64 d) (201 : Int)))) (Int.tmod (Go.IntKind.wrap Go.IntKind.i64 s) (7 : Int))) = (0 : Int)))) || (decide ((lagY yy rr (Go.IntKind.wrap Go.IntKind.i64 (y + (Int.tmod (Go.IntKind.wrap Go.IntKind.i64 d) (201 : Int)))) (Int.tmod (Go.IntKind.wrap Go.IntKind.i64 s) (7 : Int))) < (gmin yy (Go.IntKind.wrap Go.IntKind.i64 (y + (Int.tmod (Go.IntKind.wrap Go.IntKind.i64 d) (201 : Int)))))))) || (decide ((gmax yy (Go.IntKind.wrap Go.IntKind.i64 (y + (Int.tmod (Go.IntKind.wrap Go.IntKind.i64 d) (201 : Int))))) < (lagY yy rr (Go.IntKind.wrap Go.IntKind.i64 (y + (Int.tmod (Go.IntKind.wrap Go.IntKind.i64 d) (201 : Int)))) (Int.tmod (Go.IntKind.wrap Go.IntKind.i64 s) (7 : Int)))))) || (decide ((lagR yy rr (Go.IntKind.wrap Go.IntKind.i64 (y + (Int.tmod (Go.IntKind.wrap Go.IntKind.i64 d) (201 : Int)))) (Int.tmod (Go.IntKind.wrap Go.IntKind.i64 s) (7 : Int))) < (0 : Int)))) == Bool.false)) || (decide ((0 : Int) ≤ (Int.tmod (Go.IntKind.wrap Go.IntKind.i64 s) (7 : Int)))))
    (cnd (((((!(decide ((lagE yy rr (Go.IntKind.wrap Go.IntKind.i64 (y + (Int.tmod (Go.IntKind.wrap Go.IntKind.i64 d) (201 : Int)))) (Int.tmod (Go.IntKind.wrap Go.IntKind.i64 s) (7 : Int))) = (0 : Int)))) || (decide ((lagY yy rr (Go.IntKind.wrap Go.IntKind.i64 (y + (Int.tmod (Go.IntKind.wrap Go.IntKind.i64 d) (201 : Int)))) (Int.tmod (Go.IntKind.wrap Go.IntKind.i64 s) (7 : Int))) < (gmin yy (Go.IntKind.wrap Go.IntKind.i64 (y + (Int.tmod (Go.IntKind.wrap Go.IntKind.i64 d) (201 : Int)))))))) || (decide ((gmax yy (Go.IntKind.wrap Go.IntKind.i64 (y + (Int.tmod (Go.IntKind.wrap Go.IntKind.i64 d) (201 : Int))))) < (lagY yy rr (Go.IntKind.wrap Go.IntKind.i64 (y + (Int.tmod (Go.IntKind.wrap Go.IntKind.i64 d) (201 : Int)))) (Int.tmod (Go.IntKind.wrap Go.IntKind.i64 s) (7 : Int)))))) || (decide ((lagR yy rr (Go.IntKind.wrap Go.IntKind.i64 (y + (Int.tmod (Go.IntKind.wrap Go.IntKind.i64 d) (201 : Int)))) (Int.tmod (Go.IntKind.wrap Go.IntKind.i64 s) (7 : Int))) < (0 : Int)))) || (decide ((Go.IntKind.wrap Go.IntKind.i64 ((1 : Int) * ((2 : Int) ^ (Min.min (Int.toNat (Int.tmod (Go.IntKind.wrap Go.IntKind.i64 s) (7 : Int))) (Go.IntKind.bits Go.IntKind.i64))))) ≤ (lagR yy rr (Go.IntKind.wrap Go.IntKind.i64 (y + (Int.tmod (Go.IntKind.wrap Go.IntKind.i64 d) (201 : Int)))) (Int.tmod (Go.IntKind.wrap Go.IntKind.i64 s) (7 : Int))))))
      (Bool.false = Bool.true)
      (cnd ((decide (yy = (Go.IntKind.wrap Go.IntKind.i64 (y + (Int.tmod (Go.IntKind.wrap Go.IntKind.i64 d) (201 : Int)))))) && (!((decide ((lagY yy rr (Go.IntKind.wrap Go.IntKind.i64 (y + (Int.tmod (Go.IntKind.wrap Go.IntKind.i64 d) (201 : Int)))) (Int.tmod (Go.IntKind.wrap Go.IntKind.i64 s) (7 : Int))) = yy)) && ((decide ((lagR yy rr (Go.IntKind.wrap Go.IntKind.i64 (y + (Int.tmod (Go.IntKind.wrap Go.IntKind.i64 d) (201 : Int)))) (Int.tmod (Go.IntKind.wrap Go.IntKind.i64 s) (7 : Int))) = rr)) && Bool.true))))
        (Bool.false = Bool.true)
        ((reaches_L1_I y r d s (Go.IntKind.wrap Go.IntKind.i64 (i + (1 : Int))) (lagY yy rr (Go.IntKind.wrap Go.IntKind.i64 (y + (Int.tmod (Go.IntKind.wrap Go.IntKind.i64 d) (201 : Int)))) (Int.tmod (Go.IntKind.wrap Go.IntKind.i64 s) (7 : Int))) (lagR yy rr (Go.IntKind.wrap Go.IntKind.i64 (y + (Int.tmod (Go.IntKind.wrap Go.IntKind.i64 d) (201 : Int)))) (Int.tmod (Go.IntKind.wrap Go.IntKind.i64 s) (7 : Int)))) ∧ (((reaches_L1_m y r d s (Go.IntKind.wrap Go.IntKind.i64 (i + (1 : Int))) (lagY yy rr (Go.IntKind.wrap Go.IntKind.i64 (y + (Int.tmod (Go.IntKind.wrap Go.IntKind.i64 d) (201 : Int)))) (Int.tmod (Go.IntKind.wrap Go.IntKind.i64 s) (7 : Int))) (lagR yy rr (Go.IntKind.wrap Go.IntKind.i64 (y + (Int.tmod (Go.IntKind.wrap Go.IntKind.i64 d) (201 : Int)))) (Int.tmod (Go.IntKind.wrap Go.IntKind.i64 s) (7 : Int)))) < (reaches_L1_m y r d s i yy rr)) ∧ (((Go.IntKind.wrap Go.IntKind.i64 (i + (1 : Int))) = (Go.IntKind.wrap Go.IntKind.i64 (i + (1 : Int)))) ∧ (((Go.IntKind.wrap Go.IntKind.i64 ((Go.IntKind.wrap Go.IntKind.i64 ((gmax (Int.tmod (Go.IntKind.wrap Go.IntKind.i64 d) (201 : Int)) (Go.IntKind.wrap Go.IntKind.i64 ((0 : Int) - (Int.tmod (Go.IntKind.wrap Go.IntKind.i64 d) (201 : Int))))) + (1 : Int))) * (Go.IntKind.wrap Go.IntKind.i64 ((1 : Int) * ((2 : Int) ^ (Min.min (Int.toNat (Int.tmod (Go.IntKind.wrap Go.IntKind.i64 s) (7 : Int))) (Go.IntKind.bits Go.IntKind.i64))))))) = (Go.IntKind.wrap Go.IntKind.i64 ((Go.IntKind.wrap Go.IntKind.i64 ((gmax (Int.tmod (Go.IntKind.wrap Go.IntKind.i64 d) (201 : Int)) (Go.IntKind.wrap Go.IntKind.i64 ((0 : Int) - (Int.tmod (Go.IntKind.wrap Go.IntKind.i64 d) (201 : Int))))) + (1 : Int))) * (Go.IntKind.wrap Go.IntKind.i64 ((1 : Int) * ((2 : Int) ^ (Min.min (Int.toNat (Int.tmod (Go.IntKind.wrap Go.IntKind.i64 s) (7 : Int))) (Go.IntKind.bits Go.IntKind.i64)))))))) ∧ (((Go.IntKind.wrap Go.IntKind.i64 (y + (Int.tmod (Go.IntKind.wrap Go.IntKind.i64 d) (201 : Int)))) = (Go.IntKind.wrap Go.IntKind.i64 (y + (Int.tmod (Go.IntKind.wrap Go.IntKind.i64 d) (201 : Int))))) ∧ (((Int.tmod (Go.IntKind.wrap Go.IntKind.i64 s) (7 : Int)) = (Int.tmod (Go.IntKind.wrap Go.IntKind.i64 s) (7 : Int))) ∧ ((Bool.false = Bool.false) ∧ (True ∧ ((((lagY yy rr (Go.IntKind.wrap Go.IntKind.i64 (y + (Int.tmod (Go.IntKind.wrap Go.IntKind.i64 d) (201 : Int)))) (Int.tmod (Go.IntKind.wrap Go.IntKind.i64 s) (7 : Int))) = (lagY yy rr (Go.IntKind.wrap Go.IntKind.i64 (y + (Int.tmod (Go.IntKind.wrap Go.IntKind.i64 d) (201 : Int)))) (Int.tmod (Go.IntKind.wrap Go.IntKind.i64 s) (7 : Int)))) ∧ ((lagR yy rr (Go.IntKind.wrap Go.IntKind.i64 (y + (Int.tmod (Go.IntKind.wrap Go.IntKind.i64 d) (201 : Int)))) (Int.tmod (Go.IntKind.wrap Go.IntKind.i64 s) (7 : Int))) = (lagR yy rr (Go.IntKind.wrap Go.IntKind.i64 (y + (Int.tmod (Go.IntKind.wrap Go.IntKind.i64 d) (201 : Int)))) (Int.tmod (Go.IntKind.wrap Go.IntKind.i64 s) (7 : Int))))) ∧ True)))))))))))
    False)
  ((decide (yy = (Go.IntKind.wrap Go.IntKind.i64 (y + (Int.tmod (Go.IntKind.wrap Go.IntKind.i64 d) (201 : Int)))))) = Bool.true))
set_option maxRecDepth 100000 in
theorem reaches_L1_tree (y : Int) (r : Int) (d : Int) (s : Int) (i : Int) (yy : Int) (rr : Int) : reaches_L1_T y r d s i yy rr = ex Try.prog (conOf [awake_e, flag_e, rvlag_e]) (subC (bodyOf Try.f4) [1, 1, 1, 1, 1, 0, 1, 0, 0]) (nextE (reaches_L1_N y r d s i yy rr) (kont Try.prog (conOf [awake_e, flag_e, rvlag_e]) (bodyOf Try.f4) [1, 1, 1, 1, 1, 0, 1, 0] (retPost Try.prog Try.f4 0 (reaches_res y r d s)))) (reaches_L1_F y r d s i yy rr) := by kernel_rfl
set_option maxRecDepth 100000 in
theorem reaches_L1_round (y : Int) (r : Int) (d : Int) (s : Int) (i : Int) (yy : Int) (rr : Int) (p0 : wfI .i64 y = true) (p1 : wfI .i64 r = true) (p2 : wfI .i16 d = true) (p3 : wfI .u8 s = true) (hI_L1 : reaches_L1_I y r d s i yy rr) : reaches_L1_T y r d s i yy rr := by
  obtain ⟨⟨a1, a2⟩, a3, a4⟩ := hI_L1
  have hD := rD_bd d
  have hK := rK_bd (wfU8 p3)
  have hp := pw_cases hK.1 hK.2
  have hN : 1 ≤ (max (rD d) (-(rD d)) + 1) * pw (rK s) ∧ (max (rD d) (-(rD d)) + 1) * pw (rK s) ≤ 20000 := by
    rcases hp with h | h | h | h | h | h | h <;> rw [h] <;> omega
  have hp1 : 1 ≤ pw (rK s) ∧ pw (rK s) ≤ 64 := by omega
  unfold reaches_L1_T
  rw [show Int.tmod (IntKind.i64.wrap d) 201 = rD d from rfl, show Int.tmod (IntKind.i64.wrap s) 7 = rK s from rfl, pw_min (by omega), Int.one_mul, w64 (n := pw (rK s)) (by omega) (by omega), gmax_eq, show (0 : Int) - rD d = -(rD d) by omega, w64 (n := -(rD d)) (by omega) (by omega), w64 (n := max (rD d) (-(rD d)) + 1) (by omega) (by omega), w64 (n := (max (rD d) (-(rD d)) + 1) * pw (rK s)) (by omega) (by omega), w64 (n := i + 1) (by omega) (by omega), w64 (n := y + rD d) (by omega) (by omega)]
  by_cases hl : i < (max (rD d) (-(rD d)) + 1) * pw (rK s)
  · have hv := rInv_in a4 hD a3
    have hvx : isV (y + rD d) = true := isV_iff.2 (by omega)
    have hz : lagE yy rr (y + rD d) (rK s) = 0 := lagE_zero.2 ⟨by omega, hv, a4.1.1, a4.1.2, hvx⟩
    have eY : lagY yy rr (y + rD d) (rK s) = yy + (y + rD d - yy + rr) / pw (rK s) := by unfold lagY; rw [if_pos hz]
    have eR : lagR yy rr (y + rD d) (rK s) = (y + rD d - yy + rr) % pw (rK s) := by unfold lagR; rw [if_pos hz]
    obtain ⟨b1, b2, b3, b4, b5, b6⟩ := rInv_step hp a1 a4
    rw [eY, eR]
    obtain ⟨Y, hY⟩ : ∃ Y, Y = yy + (y + rD d - yy + rr) / pw (rK s) := ⟨_, rfl⟩
    obtain ⟨R, hR⟩ : ∃ R, R = (y + rD d - yy + rr) % pw (rK s) := ⟨_, rfl⟩
    rw [← hY, ← hR] at b1
    rw [← hY] at b2 b3 b6
    rw [← hR] at b4 b5 b6
    rw [← hY, ← hR, gmin_eq, gmax_eq]
    have k1 : decide (i < (max (rD d) (-(rD d)) + 1) * pw (rK s)) = true := by simpa using hl
    have k2 : decide (0 ≤ rK s) = true := by simpa using hK.1
    have k3 : (((!decide (lagE yy rr (y + rD d) (rK s) = 0) || decide (Y < min yy (y + rD d))) || decide (max yy (y + rD d) < Y)) || decide (R < 0)) = false := by
      simp [hz]; omega
    have k4 : decide (pw (rK s) ≤ R) = false := by simp; omega
    have k5 : (decide (yy = y + rD d) && (!(decide (Y = yy) && (decide (R = rr) && true)))) = false := by
      by_cases h : yy = y + rD d
      · obtain ⟨h1, h2⟩ := b6 h
        simp [h1, h2]
      · simp [h]
    simp only [k1, k2, k3, k4, k5, cnd, Bool.or_false, Bool.or_true]
    refine ⟨⟨⟨by omega, by omega⟩, a3, b1⟩, ?_, by simp⟩
    unfold reaches_L1_m
    omega
  · have he : i = (max (rD d) (-(rD d)) + 1) * pw (rK s) := by omega
    have k1 : decide (i < (max (rD d) (-(rD d)) + 1) * pw (rK s)) = false := by simpa using hl
    rw [he] at a4
    simp only [k1, cnd]
    simp [rInv_end hp a4]
set_option maxRecDepth 100000 in
theorem reaches_L1_entry1 (y : Int) (r : Int) (d : Int) (s : Int) : (((reaches_L1_I y r d s (0 : Int) y r) ∧ (((0 : Int) = (0 : Int)) ∧ (((Go.IntKind.wrap Go.IntKind.i64 ((Go.IntKind.wrap Go.IntKind.i64 ((gmax (Int.tmod (Go.IntKind.wrap Go.IntKind.i64 d) (201 : Int)) (Go.IntKind.wrap Go.IntKind.i64 ((0 : Int) - (Int.tmod (Go.IntKind.wrap Go.IntKind.i64 d) (201 : Int))))) + (1 : Int))) * (Go.IntKind.wrap Go.IntKind.i64 ((1 : Int) * ((2 : Int) ^ (Min.min (Int.toNat (Int.tmod (Go.IntKind.wrap Go.IntKind.i64 s) (7 : Int))) (Go.IntKind.bits Go.IntKind.i64))))))) = (Go.IntKind.wrap Go.IntKind.i64 ((Go.IntKind.wrap Go.IntKind.i64 ((gmax (Int.tmod (Go.IntKind.wrap Go.IntKind.i64 d) (201 : Int)) (Go.IntKind.wrap Go.IntKind.i64 ((0 : Int) - (Int.tmod (Go.IntKind.wrap Go.IntKind.i64 d) (201 : Int))))) + (1 : Int))) * (Go.IntKind.wrap Go.IntKind.i64 ((1 : Int) * ((2 : Int) ^ (Min.min (Int.toNat (Int.tmod (Go.IntKind.wrap Go.IntKind.i64 s) (7 : Int))) (Go.IntKind.bits Go.IntKind.i64)))))))) ∧ (((Go.IntKind.wrap Go.IntKind.i64 (y + (Int.tmod (Go.IntKind.wrap Go.IntKind.i64 d) (201 : Int)))) = (Go.IntKind.wrap Go.IntKind.i64 (y + (Int.tmod (Go.IntKind.wrap Go.IntKind.i64 d) (201 : Int))))) ∧ (((Int.tmod (Go.IntKind.wrap Go.IntKind.i64 s) (7 : Int)) = (Int.tmod (Go.IntKind.wrap Go.IntKind.i64 s) (7 : Int))) ∧ ((Bool.false = Bool.false) ∧ (True ∧ (((y = y) ∧ (r = r)) ∧ True))))))))) = reaches_L1_E y r d s (reaches_L1_S1 y r d s) := by kernel_rfl
theorem reaches_L1_1 (y : Int) (r : Int) (d : Int) (s : Int) (p0 : wfI .i64 y = true) (p1 : wfI .i64 r = true) (p2 : wfI .i16 d = true) (p3 : wfI .u8 s = true) (h : ((reaches_L1_I y r d s (0 : Int) y r) ∧ (((0 : Int) = (0 : Int)) ∧ (((Go.IntKind.wrap Go.IntKind.i64 ((Go.IntKind.wrap Go.IntKind.i64 ((gmax (Int.tmod (Go.IntKind.wrap Go.IntKind.i64 d) (201 : Int)) (Go.IntKind.wrap Go.IntKind.i64 ((0 : Int) - (Int.tmod (Go.IntKind.wrap Go.IntKind.i64 d) (201 : Int))))) + (1 : Int))) * (Go.IntKind.wrap Go.IntKind.i64 ((1 : Int) * ((2 : Int) ^ (Min.min (Int.toNat (Int.tmod (Go.IntKind.wrap Go.IntKind.i64 s) (7 : Int))) (Go.IntKind.bits Go.IntKind.i64))))))) = (Go.IntKind.wrap Go.IntKind.i64 ((Go.IntKind.wrap Go.IntKind.i64 ((gmax (Int.tmod (Go.IntKind.wrap Go.IntKind.i64 d) (201 : Int)) (Go.IntKind.wrap Go.IntKind.i64 ((0 : Int) - (Int.tmod (Go.IntKind.wrap Go.IntKind.i64 d) (201 : Int))))) + (1 : Int))) * (Go.IntKind.wrap Go.IntKind.i64 ((1 : Int) * ((2 : Int) ^ (Min.min (Int.toNat (Int.tmod (Go.IntKind.wrap Go.IntKind.i64 s) (7 : Int))) (Go.IntKind.bits Go.IntKind.i64)))))))) ∧ (((Go.IntKind.wrap Go.IntKind.i64 (y + (Int.tmod (Go.IntKind.wrap Go.IntKind.i64 d) (201 : Int)))) = (Go.IntKind.wrap Go.IntKind.i64 (y + (Int.tmod (Go.IntKind.wrap Go.IntKind.i64 d) (201 : Int))))) ∧ (((Int.tmod (Go.IntKind.wrap Go.IntKind.i64 s) (7 : Int)) = (Int.tmod (Go.IntKind.wrap Go.IntKind.i64 s) (7 : Int))) ∧ ((Bool.false = Bool.false) ∧ (True ∧ (((y = y) ∧ (r = r)) ∧ True))))))))) : LoopP (ex Try.prog (conOf [awake_e, flag_e, rvlag_e]) (subC (bodyOf Try.f4) [1, 1, 1, 1, 1, 0, 1, 0, 0])) (kont Try.prog (conOf [awake_e, flag_e, rvlag_e]) (bodyOf Try.f4) [1, 1, 1, 1, 1, 0, 1, 0] (retPost Try.prog Try.f4 0 (reaches_res y r d s))) (reaches_L1_S1 y r d s) := by
  have hE : reaches_L1_E y r d s (reaches_L1_S1 y r d s) := Eq.mp (reaches_L1_entry1 y r d s) h
  unfold reaches_L1_E at hE
  obtain ⟨i, hE⟩ := getI_of hE
  obtain ⟨yy, hE⟩ := getCI_of hE
  obtain ⟨rr, hE⟩ := getCI_of hE
  refine loop_of (α := (Int) × (Int) × (Int)) (fun xx_ => reaches_L1_F y r d s xx_.1 xx_.2.1 xx_.2.2) (fun xx_ => reaches_L1_I y r d s xx_.1 xx_.2.1 xx_.2.2) (fun xx_ => reaches_L1_m y r d s xx_.1 xx_.2.1 xx_.2.2) (fun xx_ => reaches_L1_N y r d s xx_.1 xx_.2.1 xx_.2.2) (fun xx_ => reaches_L1_T y r d s xx_.1 xx_.2.1 xx_.2.2) (fun xx_ s_ h => ?_) ⟨⟨i, yy, rr⟩, hE⟩ (fun xx_ => reaches_L1_tree y r d s xx_.1 xx_.2.1 xx_.2.2) (fun xx_ hI => reaches_L1_round y r d s xx_.1 xx_.2.1 xx_.2.2 p0 p1 p2 p3 hI)
  unfold reaches_L1_N at h
  obtain ⟨i, h⟩ := getI_of h
  obtain ⟨yy, h⟩ := getCI_of h
  obtain ⟨rr, h⟩ := getCI_of h
  exact ⟨⟨i, yy, rr⟩, h⟩
set_option maxRecDepth 100000 in
theorem reaches_tree (y : Int) (r : Int) (d : Int) (s : Int) : ((cnd (decide ((0 : Int) ≤ (Int.tmod (Go.IntKind.wrap Go.IntKind.i64 s) (7 : Int))))
  (cnd (decide ((Int.tmod (Go.IntKind.wrap Go.IntKind.i64 s) (7 : Int)) ≤ (20 : Int)))
    (cnd (((!(((isV y) && (decide ((0 : Int) ≤ r))) && (decide (r < (pw (Int.tmod (Go.IntKind.wrap Go.IntKind.i64 s) (7 : Int))))))) || (decide ((1099511625776 : Int) < y))) || (decide (y < (-(1099511625776 : Int)))))
      (Bool.true = Bool.true)
      (cnd (decide ((0 : Int) ≤ (Int.tmod (Go.IntKind.wrap Go.IntKind.i64 s) (7 : Int))))
        (LoopP (ex Try.prog (conOf [awake_e, flag_e, rvlag_e]) (subC (bodyOf Try.f4) [1, 1, 1, 1, 1, 0, 1, 0, 0])) (kont Try.prog (conOf [awake_e, flag_e, rvlag_e]) (bodyOf Try.f4) [1, 1, 1, 1, 1, 0, 1, 0] (retPost Try.prog Try.f4 0 (reaches_res y r d s))) (reaches_L1_S1 y r d s))
        False))
    False)
  False)) = EXD Try.prog (conOf [awake_e, flag_e, rvlag_e]) Try.f4 [.agg [.int .i64 y, .int .i64 r], .cel (.int .i16 d), .cel (.int .u8 s)] [] (reaches_res y r d s) := by kernel_rfl
theorem reaches_holds (y : Int) (r : Int) (d : Int) (s : Int) (p0 : wfI .i64 y = true) (p1 : wfI .i64 r = true) (p2 : wfI .i16 d = true) (p3 : wfI .u8 s = true) : (cnd (decide ((0 : Int) ≤ (Int.tmod (Go.IntKind.wrap Go.IntKind.i64 s) (7 : Int))))
  (cnd (decide ((Int.tmod (Go.IntKind.wrap Go.IntKind.i64 s) (7 : Int)) ≤ (20 : Int)))
    (cnd (((!(((isV y) && (decide ((0 : Int) ≤ r))) && (decide (r < (pw (Int.tmod (Go.IntKind.wrap Go.IntKind.i64 s) (7 : Int))))))) || (decide ((1099511625776 : Int) < y))) || (decide (y < (-(1099511625776 : Int)))))
      (Bool.true = Bool.true)
      (cnd (decide ((0 : Int) ≤ (Int.tmod (Go.IntKind.wrap Go.IntKind.i64 s) (7 : Int))))
        (LoopP (ex Try.prog (conOf [awake_e, flag_e, rvlag_e]) (subC (bodyOf Try.f4) [1, 1, 1, 1, 1, 0, 1, 0, 0])) (kont Try.prog (conOf [awake_e, flag_e, rvlag_e]) (bodyOf Try.f4) [1, 1, 1, 1, 1, 0, 1, 0] (retPost Try.prog Try.f4 0 (reaches_res y r d s))) (reaches_L1_S1 y r d s))
        False))
    False)
  False) := by
  have hK := rK_bd (wfU8 p3)
  have k2 : decide (0 ≤ rK s) = true := by simpa using hK.1
  have k3 : decide (rK s ≤ 20) = true := by simp; omega
  have hgoal : ∀ b : Bool, (b = false → ((isV y && decide (0 ≤ r)) && decide (r < pw (rK s))) = true ∧ -1099511625776 ≤ y ∧ y ≤ 1099511625776) →
      cnd b (true = true) (cnd (decide (0 ≤ rK s)) (LoopP (ex Try.prog (conOf [awake_e, flag_e, rvlag_e]) (subC (bodyOf Try.f4) [1, 1, 1, 1, 1, 0, 1, 0, 0])) (kont Try.prog (conOf [awake_e, flag_e, rvlag_e]) (bodyOf Try.f4) [1, 1, 1, 1, 1, 0, 1, 0] (retPost Try.prog Try.f4 0 (reaches_res y r d s))) (reaches_L1_S1 y r d s)) False) := by
    intro b hb
    cases b
    · obtain ⟨h1, h2⟩ := hb rfl
      simp only [k2, cnd]
      simp only [Bool.and_eq_true, decide_eq_true_eq] at h1
      have hD := rD_bd d
      have hp := pw_cases hK.1 hK.2
      refine reaches_L1_1 y r d s p0 p1 p2 p3 ?_
      refine ⟨⟨⟨by omega, ?_⟩, h2, rInv_start ⟨h1.1.2, h1.2⟩⟩, by simp⟩
      rcases hp with h | h | h | h | h | h | h <;> rw [h] <;> omega
    · rfl
  change cnd (decide (0 ≤ rK s)) (cnd (decide (rK s ≤ 20)) (cnd _ _ (cnd (decide (0 ≤ rK s)) _ _)) _) _
  simp only [k2, k3, cnd]
  have := hgoal (((!((isV y && decide (0 ≤ r)) && decide (r < pw (rK s)))) || decide (1099511625776 < y)) || decide (y < -1099511625776)) (fun h => by
    simp only [Bool.or_eq_false_iff, Bool.not_eq_false', decide_eq_false_iff_not] at h
    exact ⟨h.1.1, by omega, by omega⟩)
  simp only [k2, cnd] at this
  exact this
theorem reaches_ok : SoundEnt Try.prog reaches_e := by
  refine ent_of_ex (Γ := (conOf [awake_e, flag_e, rvlag_e])) (conOf_sound (scons awake_ok (scons flag_ok (scons rvlag_ok snil)))) (by kernel_rfl) Try.func4 (by kernel_rfl) (by kernel_rfl) (fun args rows res h ho => ?_)
  change reaches_go args rows = some res at h
  unfold reaches_go at h
  split at h
  · simp only [Option.some.injEq] at h
    subst h
    obtain ⟨p0, p1, p2, p3, _⟩ := ho
    exact EX.of (reaches_tree _ _ _ _) (reaches_holds _ _ _ _ p0 p1 p2 p3)
  · cases h
end Go.Proofs.Ytoflhcdhgkbdcaa

